/- Merged texts of one road: CkC, Skl, TypL, TypH, CkD, CkE, Shp, Txt, Pre, Tpa, Tpb, Tpc, CkF, CkG, CkH, CkI, CkK, Byt. Conditions: each text's own. -/
import Derived.Test.YtapkdoacegpgaaaGreatDoorC03
import Derived.Test.YtapkdoacegpgaaaGreatDoorC02
import Derived.Lib.ItoaNum
import Derived.Test.YtapkdoacegpgaaaGreatDoorC01
import Derived.Laws.MakeOwn
import Derived.Laws.BytesString
import Derived.Lib.ConvBytes
import Derived.Lib.AtoiErrMem
import Derived.Laws.OwnMore
set_option linter.unusedSimpArgs false
set_option linter.unusedVariables false
namespace Go.Proofs
end Go.Proofs
namespace Go.Rk
open Go.Proofs
open Go Go.RowKit
structure Bd (S:CSt) (N:Nat):Prop where
  vl:S.vars.length≤N
  nl:S.next.length≤N+1
  nx:∀ k∈S.next,k≤N
  lv:S.level<S.next.length
  sc:S.scope≤N
  vs:∀ v∈S.vars,v.num≤N∧v.level≤N∧v.scope≤N
theorem Bd.mono{S:CSt}{N M:Nat}(h:Bd S N)(hm:N≤M):Bd S M :=
 ⟨Nat.le_trans h.vl hm,by have:=h.nl;omega,fun k hk=>Nat.le_trans (h.nx k hk) hm,h.lv,Nat.le_trans h.sc hm,fun v hv=>by have:=h.vs v hv;omega⟩
structure Stp (d:Nat) (S S':CSt):Prop where
  level:S'.level=S.level
  scope:S'.scope=S.scope
  result:S'.result=S.result
  er:S'.ee=0→S.ee=0
  bd:∀ N,Bd S N→Bd S' (N+d)
theorem Stp.refl(S:CSt):Stp 0 S S:=⟨rfl,rfl,rfl,id,fun N h=>h⟩
theorem Stp.trans{a b:Nat}{S T U:CSt}(h:Stp a S T)(k:Stp b T U):Stp (a+b) S U :=
 ⟨k.level.trans h.level,k.scope.trans h.scope,k.result.trans h.result,fun he=>h.er (k.er he),fun N hN=>by have:=k.bd _ (h.bd N hN);rwa [Nat.add_assoc] at this⟩
theorem Stp.mono{a b:Nat}{S T:CSt}(h:Stp a S T)(hb:a≤b):Stp b S T:=⟨h.level,h.scope,h.result,h.er,fun N hN=>(h.bd N hN).mono (by omega)⟩
theorem Stp.of{S T:CSt}(h1:T.vars=S.vars)(h2:T.scope=S.scope)(h3:T.level=S.level)(h4:T.next=S.next)(h5:T.result=S.result)(h6:T.ee=0→S.ee=0):Stp 0 S T :=
 ⟨h3,h2,h5,h6,fun N h=>⟨by rw [h1];exact h.vl,by rw [h4];exact h.nl,by rw [h4];exact h.nx,by rw [h3,h4];exact h.lv,by rw [h2];exact h.sc,by rw [h1];exact h.vs⟩⟩
theorem Vab(a e:Int)(S:CSt):(failS a e S).vars=S.vars∧(failS a e S).scope=S.scope∧(failS a e S).level=S.level∧(failS a e S).next=S.next∧(failS a e S).result=S.result∧((failS a e S).ee=0→S.ee=0):=by
 unfold failS;cases h:decide (S.ee=0);exact ⟨rfl,rfl,rfl,rfl,rfl,id⟩;exact ⟨rfl,rfl,rfl,rfl,rfl,fun _=>of_decide_eq_true h⟩
theorem Upa(b:Bool)(a e:Int)(S:CSt):(failU b a e S).vars=S.vars∧(failU b a e S).scope=S.scope∧(failU b a e S).level=S.level∧(failU b a e S).next=S.next∧(failU b a e S).result=S.result∧((failU b a e S).ee=0→S.ee=0):=by
 unfold failU;cases b;exact Vab a e S;exact ⟨rfl,rfl,rfl,rfl,rfl,id⟩
theorem Wmf(a e:Int)(S:CSt):Stp 0 S (failS a e S):=by obtain ⟨h1,h2,h3,h4,h5,h6⟩:=Vab a e S;exact Stp.of h1 h2 h3 h4 h5 h6
theorem Zcc(b:Bool)(a e:Int)(S:CSt):Stp 0 S (failU b a e S):=by obtain ⟨h1,h2,h3,h4,h5,h6⟩:=Upa b a e S;exact Stp.of h1 h2 h3 h4 h5 h6
theorem Stp.fail{d:Nat}{S T:CSt}(h:Stp d S T)(a e:Int):Stp d S (failS a e T):=h.trans (Wmf a e T)
theorem Stp.failu{d:Nat}{S T:CSt}(h:Stp d S T)(b:Bool)(a e:Int):Stp d S (failU b a e T):=h.trans (Zcc b a e T)
theorem Stp.cond{d:Nat}{S T U:CSt}{b:Bool}(h:Stp d S T)(k:Stp d S U):Stp d S (bif b then T else U):=by cases b <;> assumption
theorem Wqe(F n:Nd)(S:CSt):Stp 0 S (pointerS F n S):=((Stp.refl S).failu _ _ _).cond (Stp.refl S)
theorem Xpb(F n:Nd)(S:CSt):Stp 0 S (localS F n S):=(Wqe F n S).failu _ _ _
theorem Vdg{l:List Nat}{i:Nat}{a x:Nat}(h:x∈l.set i a):x∈l∨x=a:=List.mem_or_eq_of_mem_set h
theorem Wre{S:CSt}{N:Nat}(h:Bd S N):declN S≤N:=by
 have hl:=h.lv;have:declN S=S.next[S.level]:=by rw [declN,List.getD_eq_getElem?_getD,List.getElem?_eq_getElem hl];rfl
 rw [this];exact h.nx _ (List.getElem_mem hl)
theorem Vgc(s:List UInt8)(y:Ty)(a:Int)(S:CSt):Stp 1 S (declS s y a S):=by
 have hq:=Upa (!dupV S s) a 6 S;refine ⟨hq.2.2.1,hq.2.1,hq.2.2.2.2.1,hq.2.2.2.2.2,fun N h=>?_⟩;have hd:=Wre h;refine ⟨?_,?_,?_,?_,?_,?_⟩;show (S.vars++[_]).length≤_;have:=h.vl;simp;omega;show (S.next.set _ _).length≤_;have:=h.nl;simp;omega;intro k hk;rcases Vdg (show k∈S.next.set S.level (declN S+1) from hk) with h1|h1;have:=h.nx k h1;omega;omega;show (failU (!dupV S s) a 6 S).level<(S.next.set _ _).length;rw [hq.2.2.1];have:=h.lv;simp;omega;show (failU (!dupV S s) a 6 S).scope≤_;rw [hq.2.1];have:=h.sc;omega;intro v hv;have hv:v∈S.vars++[⟨s,y,declN S,S.level,S.scope⟩]:=hv;rcases List.mem_append.1 hv with h1|h1;have:=h.vs v h1;omega;obtain rfl:=List.mem_singleton.1 h1;have h2:=h.lv;have h3:=h.nl;have h4:=h.sc;exact ⟨by show declN S≤_;omega,by show S.level≤_;omega,by show S.scope≤_;omega⟩
theorem Wnf(sc:Nat)(l:List Vr):(dropV sc l).length≤l.length:=by
 unfold dropV;rw [List.length_reverse];have h:(l.reverse.dropWhile fun v=>decide (v.scope=sc)).length≤l.reverse.length:=(List.dropWhile_sublist _).length_le;rwa [List.length_reverse] at h
theorem Wof{sc:Nat}{l:List Vr}{v:Vr}(h:v∈dropV sc l):v∈l:=by
 unfold dropV at h;exact List.mem_reverse.1 ((List.dropWhile_sublist _).subset (List.mem_reverse.1 h))
theorem Qbd{d:Nat}{S T:CSt}(h:Stp d (openS S) T):Stp (1+d) S (shutS T):=by
 refine ⟨h.level,?_,h.result,h.er,fun N hN=>?_⟩;show T.scope-1=S.scope;rw [h.scope];rfl;have h1:Bd (openS S) (N+1):=⟨by have:=hN.vl;show S.vars.length≤_;omega,by have:=hN.nl;show S.next.length≤_;omega,fun k hk=>by have:=hN.nx k hk;omega,hN.lv,by have:=hN.sc;show S.scope+1≤_;omega,fun v hv=>by have:=hN.vs v hv;omega⟩;have h2:=h.bd _ h1;rw [show N+1+d=N+(1+d) by omega] at h2;refine ⟨Nat.le_trans (Wnf _ _) h2.vl,h2.nl,h2.nx,h2.lv,Nat.le_trans (Nat.sub_le _ _) h2.sc,fun v hv=>h2.vs v (Wof hv)⟩
theorem Jof{S:CSt}{N:Nat}(h:Bd S N):Bd (litS S) (N+1):=by
 have hl:=h.lv;have hn:=h.nl;refine ⟨by have:=h.vl;show S.vars.length≤_;omega,?_,?_,?_,by have:=h.sc;show S.scope≤_;omega,fun v hv=>by have:=h.vs v hv;omega⟩;show (S.next.take (S.level+1)++[0]).length≤_;simp;omega;intro k hk;rcases List.mem_append.1 (show k∈S.next.take (S.level+1)++[0] from hk) with h1|h1;have:=h.nx k (List.mem_of_mem_take h1);omega;simp at h1;omega;show S.level+1<(S.next.take (S.level+1)++[0]).length;simp;omega
theorem Veg{d:Nat}{S T:CSt}(h:Stp d (litS S) T):Stp (1+d) S { T with level:=T.level-1,result:=S.result }:=by
 have hl:T.level=S.level+1:=h.level;refine ⟨by show T.level-1=_;omega,h.scope,rfl,h.er,fun N hN=>?_⟩;have h2:=h.bd _ (Jof hN);rw [show N+1+d=N+(1+d) by omega] at h2;exact ⟨h2.vl,h2.nl,h2.nx,by have:=h2.lv;show T.level-1<T.next.length;omega,h2.sc,h2.vs⟩
/-! children's counts -/
def cN(t:Nd)(i:Nat):Nat:=(t.kids.map count).getD i 0
def sC(t:Nd):Nat→Nat
 | 0=>0
 | i+1=>sC t i+cN t i
theorem sC_eq(t:Nd)(i:Nat):sC t i=((t.kids.map count).take i).sum:=by
 induction i with
 | zero=>rfl
 | succ i ih =>
  rw [sC,ih,List.take_add_one,cN,List.getD_eq_getElem?_getD,List.sum_append];cases (t.kids.map count)[i]? <;> simp
theorem Vxa(t:Nd)(i:Nat):sC t i+1≤count t:=by
 rw [sC_eq,Uw];have:=Qdc (t.kids.map count) i;omega
theorem Vhc{t:Nd}{i:Nat}(h:i<t.kids.length):cN t i=count (Zb t i):=by
 rw [cN,Wg h];simp [List.getD_eq_getElem?_getD,List.getElem?_eq_getElem h]
structure CkS (c:Ck) (d:Nat):Prop where
  ex:∀ S,Stp d S (c.ex S).2
  mem:∀ S,Stp d S (c.mem S).2
  cal:∀ S,Stp d S (c.cal S).2
  st:∀ S,Stp d S (c.st S).2
  blk:∀ S,Stp d S (c.blk S).2
  ifs:∀ S,Stp d S (c.ifs S).2
  sts:∀ S,Stp d S (c.sts S).2
  cas:∀ f S,Stp d S (c.cas f S).2
theorem Qug:CkS ck0 0:=⟨fun S=>Stp.refl S,fun S=>Stp.refl S,fun S=>Stp.refl S,fun S=>Stp.refl S,fun S=>Stp.refl S,fun S=>Stp.refl S,fun S=>Stp.refl S,fun _ S=>Stp.refl S⟩
section
variable {F t:Nd} {x:Nat→Ck}
theorem Zxf(X:∀ i,CkS (x i) (cN t i))(S:CSt):Stp (sC t 1) S (memR F t x S).2:=by
 have h:Stp (sC t 1) S ((x 0).ex S).2:=((X 0).ex S).mono (by simp [sC]);unfold memR;dsimp only;cases decide (((x 0).ex S).1.ty.kind=4);exact h.fail _ _;simp only [cond_true];split;exact h;exact h.fail _ _
theorem Zre(X:∀ i,CkS (x i) (cN t i))(ps:List Ty){S T:CSt}(h:Stp (sC t 1) S T):∀ i,Stp (sC t (i+1)) S (argA t x ps T i).2
 | 0=>h
 | i+1=>((Zre X ps h i).trans ((X (i+1)).ex _)).failu _ _ _
theorem Jpf(X:∀ i,CkS (x i) (cN t i))(S:CSt):Stp (sC t (t.kids.length-1+1)) S (callR t x S).2 :=
 Zre X _ ((((X 0).cal S).mono (by simp [sC])).failu _ _ _) _
theorem Jqf(X:∀ i,CkS (x i) (cN t i))(S:CSt):Stp (1+sC t 1) S (litR t x S).2:=Veg (((X 0).blk _).mono (by simp [sC]))
theorem Zhd(X:∀ i,CkS (x i) (cN t i))(S:CSt):Stp (sC t 1) S ((x 0).ex S).2:=((X 0).ex S).mono (by simp [sC])
theorem Jng(X:∀ i,CkS (x i) (cN t i))(S:CSt):Stp (sC t 2) S (opR t x S).2:=by
 have h:=Zhd X S;have h1:∀ T,Stp (sC t 1) S T→Stp (sC t 2) S ((x 1).ex T).2:=fun T hT=>hT.trans ((X 1).ex T);have hm:∀ {T},Stp (sC t 1) S T→Stp (sC t 2) S T:=fun hT=>hT.mono (Nat.le_add_right _ _);unfold opR;dsimp only [wantS];repeat' (first|(generalize decide (t.kind=_)=q;cases q <;> simp only [cond_true,cond_false]))
 all_goals first
  | exact (h1 _ (h.failu _ _ _)).failu _ _ _
  | exact (h1 _ h).failu _ _ _
  | exact hm (h.failu _ _ _)
  | exact hm h
theorem Zyf(X:∀ i,CkS (x i) (cN t i))(S:CSt):Stp (count t) S (exR F t x S).2:=by
 have hc:∀ i,sC t i+1≤count t:=Vxa t;have h0:∀ {T},Stp 0 S T→Stp (count t) S T:=fun h=>h.mono (Nat.zero_le _);unfold exR;cases decide (t.kind=24);case true=>exact h0 (Stp.refl S)
 cases decide (t.kind=25);case true=>exact h0 (Stp.refl S)
 cases decide (t.kind=26);case true=>exact h0 (Stp.refl S)
 cases decide (t.kind=38);case true=>exact (Jqf X S).mono (by have:=hc 1;omega)
 cases decide (t.kind=30);case true=>exact (Jpf X S).mono (by have:=hc (t.kids.length-1+1);omega)
 cases decide (t.kind=27);case true=>exact h0 (((Stp.refl S).failu _ _ _).cond ((Stp.refl S).fail _ _))
 cases decide (t.kind=28);case true=>exact ((Zxf X S).failu _ _ _).mono (by have:=hc 1;omega)
 cases decide (t.kind=34);case true=>exact h0 ((Stp.refl S).failu _ _ _)
 exact (Jng X S).mono (by have:=hc 2;omega)
theorem Vfg(X:∀ i,CkS (x i) (cN t i))(S:CSt):Stp (count t) S (calR F t x S).2:=by
 have hc:=Vxa t 1;unfold calR;dsimp only;cases decide (t.kind=28)&&((x 0).rcv S).2;simp only [cond_false];cases decide (t.kind=27)&&((lookR F S t).2&&decide ((lookR F S t).1.ref=3));exact (Zyf X S).failu _ _ _;exact (Stp.refl S).mono (Nat.zero_le _);refine Stp.failu ?_ _ _ _;unfold rcvX;cases decide ((Zb t 0).kind=28);exact (Stp.refl S).mono (Nat.zero_le _);exact ((X 0).mem S).mono (by simp [sC] at hc;omega)
theorem Zse(X:∀ i,CkS (x i) (cN t i))(S:CSt):∀ i,Stp (sC t i) S (stA x S i).2
 | 0=>Stp.refl S
 | i+1=>(Zse X S i).trans ((X i).st _)
theorem Zzf(X:∀ i,CkS (x i) (cN t i))(S:CSt):Stp (sC t t.kids.length) S (stsR t x S).2:=Zse X S _
theorem Yaf(X:∀ i,CkS (x i) (cN t i))(S:CSt):Stp (count t) S (blkR t x S).2:=(Qbd (Zzf X (openS S))).mono (by have:=Vxa t t.kids.length;omega)
theorem Wse(X:∀ i,CkS (x i) (cN t i))(k:Nd){S T:CSt}(h:Stp 0 S T):Stp (sC t 1) S (condR k (x 0) T).2:=by
 unfold condR;cases decide (k.kind=9);exact (h.trans ((X 0).ex T)).mono (by simp [sC]) |>.failu _ _ _
 exact h.mono (Nat.zero_le _)
theorem Jrf(X:∀ i,CkS (x i) (cN t i))(S:CSt):Stp (sC t 3) S (ifR t x S).2:=by
 have h1:Stp (sC t 2) S ((x 1).blk (condR (Zb t 0) (x 0) S).2).2:=(Wse X _ (Stp.refl S)).trans ((X 1).blk _);unfold ifR;dsimp only;cases decide ((Zb t 2).kind=10);cases decide ((Zb t 2).kind=18);exact h1.mono (Nat.le_add_right _ _);exact h1.trans ((X 2).ifs _);exact h1.trans ((X 2).blk _)
theorem Vgg(X:∀ i,CkS (x i) (cN t i))(S:CSt):Stp (sC t 2) S (asgR t x S).2:=(((Zhd X S).failu _ _ _).trans ((X 1).ex _)).failu _ _ _
theorem Vhg(X:∀ i,CkS (x i) (cN t i))(f:Bool)(S:CSt):Stp (1+sC t 2) S (casR t x f S).2:=by
 refine Qbd (Stp.trans (a:=sC t 1) (T:=(bif decide ((Zb t 0).kind=9) then (clnT (Zb t 0),failU f t.pos 6 (openS S)) else (x 0).st (openS S)).2) ?_ ((X 1).sts _));cases decide ((Zb t 0).kind=9);exact ((X 0).st _).mono (by simp [sC]);exact ((Stp.refl _).failu _ _ _).mono (Nat.zero_le _)
theorem Xwd(X:∀ i,CkS (x i) (cN t i))(S:CSt):∀ i,Stp (sC t i) S (selA t x S i).2.2
 | 0=>Stp.refl S
 | i+1=>(Xwd X S i).trans ((X i).cas _ _)
theorem Vig(X:∀ i,CkS (x i) (cN t i))(S:CSt):Stp (1+sC t 2) S (varR F t x S).2:=by
 unfold varR;dsimp only;cases decide ((Zb t 1).kind=9);exact (((((Xpb F _ S).trans ((X 1).ex _)).failu _ _ _).trans (Vgc _ _ _ _)).mono (by simp [sC];omega));exact ((Xpb F _ S).trans (Vgc _ _ _ _)).mono (by omega)
theorem Vjg(X:∀ i,CkS (x i) (cN t i))(S:CSt):Stp (1+sC t 1) S (defR t x S).2:=(((Zhd X S).failu _ _ _).trans (Vgc _ _ _ _)).mono (by omega)
theorem Vkg(X:∀ i,CkS (x i) (cN t i))(S:CSt):Stp (sC t 2) S (forR t x S).2:=(Wse X _ (Stp.refl S)).trans ((X 1).blk _)
theorem Vlg(X:∀ i,CkS (x i) (cN t i))(S:CSt):Stp (sC t 1) S (retR t x S).2:=by
 unfold retR;dsimp only;cases decide ((t.kids.length:Int)=1);exact ((Stp.refl S).failu _ _ _).mono (Nat.zero_le _);exact ((((Stp.refl S).failu _ _ _).trans ((X 0).ex _)).mono (by simp [sC])).failu _ _ _
theorem Vmg(X:∀ i,CkS (x i) (cN t i))(S:CSt):Stp (count t) S (stR F t x S).2:=by
 have hc:∀ i,sC t i+1≤count t:=Vxa t;unfold stR;dsimp only;cases decide (t.kind=10);case true=>exact Yaf X S
 cases decide (t.kind=18);case true=>exact (Jrf X S).mono (by have:=hc 3;omega)
 cases decide (t.kind=12);case true=>exact (Vgg X S).mono (by have:=hc 2;omega)
 cases decide (t.kind=22);case true=>exact (Xwd X S _).mono (by have:=hc t.kids.length;omega)
 cases decide (t.kind=6);case true=>exact (Vig X S).mono (by have:=hc 2;omega)
 cases decide (t.kind=11);case true=>exact (Vjg X S).mono (by have:=hc 1;omega)
 cases decide (t.kind=19);case true=>exact (Vkg X S).mono (by have:=hc 2;omega)
 cases decide (t.kind=20);case true=>exact (Vlg X S).mono (by have:=hc 1;omega)
 have h:=Zhd X S;simp only [cond_false,wantS];cases decide (t.kind=16);case true=>exact (((h.failu _ _ _).trans ((X 1).ex _)).failu _ _ _).mono (by have:=hc 2;simp only [sC] at this ⊢;omega)
 cases decide (t.kind=17);case true=>exact (h.failu _ _ _).mono (by have:=hc 1;omega)
 cases decide (t.kind=21);case true=>exact (h.failu _ _ _).mono (by have:=hc 1;omega)
 exact h.mono (by have:=hc 1;omega)
theorem cks_f(X:∀ i,CkS (x i) (cN t i)):CkS (ckF F t x) (count t) :=
 ⟨Zyf X,fun S=>(Zxf X S).mono (by have:=Vxa t 1;omega),Vfg X,Vmg X,Yaf X,fun S=>(Jrf X S).mono (by have:=Vxa t 3;omega),fun S=>(Zzf X S).mono (by have:=Vxa t t.kids.length;omega),fun f S=>(Vhg X f S).mono (by have:=Vxa t 2;omega)⟩
end
theorem Xqb(F:Nd):∀ t,CkS (ckT F t) (count t):=by
 refine Nd.ind fun t ih=>?_;rw [Yva];refine cks_f fun i=>?_;by_cases h:i<t.kids.length;rw [Vt h,Vhc h,Wg h];exact ih _ (List.getElem_mem h);rw [ckX,cN];simp only [List.getD_eq_getElem?_getD,List.getElem?_map];rw [List.getElem?_eq_none (by omega)];exact Qug
theorem Jsf(F t:Nd)(i:Nat):CkS (ckX F t i) (cN t i):=by
 by_cases h:i<t.kids.length;rw [Vt h,Vhc h];exact Xqb F _;rw [ckX,cN];simp only [List.getD_eq_getElem?_getD,List.getElem?_map];rw [List.getElem?_eq_none (by omega)];exact Qug
theorem Xta:∀ t,count (plainT t)=count t:=by
 refine Nd.ind fun t ih=>?_;rw [Uw,Xsa,List.map_map,Uw t];congr 2;exact List.map_congr_left fun k hk=>ih k hk
set_option maxRecDepth 100000 in
set_option maxHeartbeats 4000000 in
theorem Wte(t:Nd)(w:World)(h0:t.kids=[]):Ret PP Jhd #[ndV t (.slice none 0 0)] w fun r w'=>r=ndV (stripT t) (.slice none 0 0)∧G w w':=by
 obtain ⟨k,x,n,a,ks,y,r,u⟩:=t;obtain rfl:ks=[]:=h0;obtain ⟨t,ht⟩:∃ t,t=Nd.mk k x n a [] y r u:=⟨_,rfl⟩;have h0:(0:Nat)=t.kids.length:=by rw [ht];rfl
 rw [← ht];have g:=G.refl w;refine WK 34 [0] Yfd ?_;refine Zj (Zm (BM fun b1 _ _ _ g E=>?_));refine AN fun b2 _ _ _ g E=>?_;refine Ze (kq (Zj (Zm (Yj Xm O (Yq Yd O (E.g1.at_ O) (Yj Yn O (Yq Yg O (E.g1.at_ O) (Zba Zu Xn (pqc O (pqc O pq0)) O O (AN fun b3 _ _ _ g E=>?_)))))))));refine AS fun _ _ _ g E=>?_;refine AU ?_;refine CP ((by have:=Qre t none 0;rw [← h0] at this;exact this _)) (fun w11 g11=>?_);have g:=g.trans g11;replace E:=E.grow g11;refine IF (fun h1=>?_) fun h1=>?_
 ·replace h1:countsB t=true:=h1
  refine AS fun wS2 _ _ g E=>?_;refine AU ?_
  have B3:Blk wS2 b3 Ys (ndCells (stripT t) (.slice none 0 0)):=by
   have h:=E.g0;rw [Jdb,numS,h1];exact h
  replace E:=E.r0 B3;refine AU ?_;have hnd1:=E.1;refine We (fun (i:Nat) u1=>(i=0∧Blk u1 b3 Ys (ndCells (stripT t) (.slice none 0 0)))∧G w u1) _ [(1,True,_),(2,True,_),(3,True,_)] (fun (i:Nat)=>[(4,True,.int .i64 i)]) (fun (i:Nat)=>0) (0) ⟨⟨rfl,E.g0⟩,g⟩ (Zs (blkE E.g2) (Zs (blkE E.g1) (Yh _))) (Za rfl (Za rfl (Za rfl (Za rfl (Zp _))))) ?_;clear E;rintro i u1 ⟨hI1,gl1⟩ ⟨B1,B2,_⟩;replace B1:Blk _ _ _ _:=B1;replace B2:Blk _ _ _ _:=B2;have g:=gl1;obtain ⟨hi,B3⟩:=hI1;subst hi;have E:=Zha (L:=[(b3,_,_),(b2,_,_),(b1,_,_)]) hnd1 ⟨B3,B2,B1,trivial⟩ rfl;refine IF (fun h2=>?_) fun h2=>?_
  ·exfalso;simp only [decide_eq_true_eq] at h2;omega
   done
  refine AS fun _ _ _ g E=>?_;refine RTN ?_;exact ⟨rfl,g⟩
 replace h1:countsB t=false:=h1;refine AU ?_
 have B3:Blk w11 b3 Ys (ndCells (stripT t) (.slice none 0 0)):=by
  have h:=E.g0;rw [Jdb,numS,h1];exact h
 replace E:=E.r0 B3;refine AU ?_;have hnd1:=E.1;refine We (fun (i:Nat) u1=>(i=0∧Blk u1 b3 Ys (ndCells (stripT t) (.slice none 0 0)))∧G w u1) _ [(1,True,_),(2,True,_),(3,True,_)] (fun (i:Nat)=>[(4,True,.int .i64 i)]) (fun (i:Nat)=>0) (0) ⟨⟨rfl,E.g0⟩,g⟩ (Zs (blkE E.g2) (Zs (blkE E.g1) (Yh _))) (Za rfl (Za rfl (Za rfl (Za rfl (Zp _))))) ?_;clear E;rintro i u1 ⟨hI1,gl1⟩ ⟨B1,B2,_⟩;replace B1:Blk _ _ _ _:=B1;replace B2:Blk _ _ _ _:=B2;have g:=gl1;obtain ⟨hi,B3⟩:=hI1;subst hi;have E:=Zha (L:=[(b3,_,_),(b2,_,_),(b1,_,_)]) hnd1 ⟨B3,B2,B1,trivial⟩ rfl;refine IF (fun h2=>?_) fun h2=>?_
 ·exfalso;simp only [decide_eq_true_eq] at h2;omega
  done
 refine AS fun _ _ _ g E=>?_;refine RTN ?_;exact ⟨rfl,g⟩
theorem Vng{t:Nd}(h:((decide (t.kind=9)&&decide (t.text=[]))&&leafB t)=true):ofF t=(ty0,true):=by
 simp only [Bool.and_eq_true] at h;unfold ofF;rw [h.2,h.1.1,h.1.2];rfl
theorem Jog{t:Nd}(h:((decide (t.kind=9)&&decide (t.text=[]))&&leafB t)=false)(h2:isTypeB t=false):ofF t=(ty0,false):=by
 unfold ofF;unfold isTypeB at h2;cases h3:leafB t;rfl;rw [h3,Bool.and_true] at h;simp only [Bool.not_true,cond_false];cases h4:decide (t.kind=9);simp only [cond_false];cases h5:decide (t.kind=8);simp only [cond_false];cases h6:decide (t.kind=7);rfl;rw [h5,h6,h3] at h2;simp only [cond_true,cond_false,Bool.and_true] at h2;rw [h2];rfl;rw [h5,h3,Bool.and_true] at h2;simp only [cond_true] at h2;rw [h2];rfl;rw [h4,Bool.true_and] at h;rw [h];rfl
theorem Jpg{t:Nd}(h2:isTypeB t=true)(h3:decide (t.kind=8)=true):ofF t=(⟨4,t.text⟩,true):=by
 unfold isTypeB at h2;rw [h3,cond_true,Bool.and_eq_true] at h2;have hk:=of_decide_eq_true h3;unfold ofF;rw [h2.2,h3,h2.1,Yvh (by omega:¬ t.kind=9)];rfl
theorem Yjb{t:Nd}(h2:isTypeB t=true)(h3:decide (t.kind=8)=false):ofF t=(⟨typKind t.text,[]⟩,true)∧typeNameB t.text=true:=by
 unfold isTypeB at h2;rw [h3,cond_false] at h2;cases h4:decide (t.kind=7);rw [h4] at h2;cases h2;rw [h4,cond_true,Bool.and_eq_true] at h2;have hk:=of_decide_eq_true h4;unfold ofF;rw [h2.2,h3,h4,h2.1,Yvh (by omega:¬ t.kind=9)];exact ⟨rfl,rfl⟩
theorem Vbb(t:Nd)(p:Option Addr)(c:Nat)(w:World):Ret PP Xff #[ndV t (.slice p t.kids.length c)] w fun v w'=>v = .tuple #[tyV (ofF t).1,.bool (ofF t).2]∧G w w':=by
  have g := G.refl w
  refine WK 59 [0] Yye ?_
  refine BM fun _ _ _ _ g E => ?_
  refine AN fun _ _ _ _ g E => ?_
  refine IF (fun h1 => ?_) fun h1 => ?_
  · replace h1 : ((decide (t.kind = 9) && decide (t.text = [])) && leafB t) = true := h1
    refine AS fun _ _ _ g E => ?_
    refine RTN ?_
    rw [Vng h1]; exact ⟨rfl, g⟩
  replace h1 : ((decide (t.kind = 9) && decide (t.text = [])) && leafB t) = false := h1
  refine AU ?_
  refine CP (Jwb _ _ _ _) (fun w20 g20 => ?_)
  have g := g.trans g20
  replace E := E.grow g20
  refine IF (fun h2 => ?_) fun h2 => ?_
  · (try simp only [bsimp] at h2)
    refine AS fun _ _ _ g E => ?_
    refine RTN ?_
    rw [Jog h1 (by simpa using h2)]; exact ⟨rfl, g⟩
  have hty : isTypeB t = true := by simpa using h2
  refine Ya (kq (Zj (Zj (Zm (Yj Xm O (Yq Yd O (E.g1.at_ O) (Zwa O O (Ze (kq (Wm O (fun h3 => ?_) (fun h3 => ?_)))))))))))
  · (try simp only [bsimp] at h3)
    refine Zj (Zm (Yj Yn O (Yq Yg O (E.g1.at_ O) (Zba Wn Ve (pqc O (pqc O pq0)) O O (AS fun _ _ _ g E => ?_)))))
    refine RTN ?_
    rw [Jpg hty h3]; exact ⟨rfl, g⟩
  refine IF (fun h4 => ?_) fun h4 => ?_
  · (try simp only [bsimp] at h4)
    refine AS fun _ _ _ g E => ?_
    refine RTN ?_
    obtain ⟨e, hn⟩ := Yjb hty h3
    rw [e]
    have hx := h4
    refine ⟨?_, g⟩
    first
    | (have e2 := of_decide_eq_true hx; rw [e2]; rfl)
    | (have hm := (Yma _ _).1 hn
       simp only [typeNames, List.mem_cons, List.not_mem_nil, or_false] at hm
       simp only [decide_eq_false_iff_not] at h4 h5 h6 h7 h8 h9 h10 h11 h12
       have e2 : t.text = [97, 116, 111, 109, 105, 99] := by simpa only [h4, h5, h6, h7, h8, h9, h10, h11, h12, false_or] using hm
       rw [e2]; rfl)
  refine IF (fun h5 => ?_) fun h5 => ?_
  · (try simp only [bsimp] at h5)
    refine AS fun _ _ _ g E => ?_
    refine RTN ?_
    obtain ⟨e, hn⟩ := Yjb hty h3
    rw [e]
    have hx := h5
    refine ⟨?_, g⟩
    first
    | (have e2 := of_decide_eq_true hx; rw [e2]; rfl)
    | (have hm := (Yma _ _).1 hn
       simp only [typeNames, List.mem_cons, List.not_mem_nil, or_false] at hm
       simp only [decide_eq_false_iff_not] at h4 h5 h6 h7 h8 h9 h10 h11 h12
       have e2 : t.text = [97, 116, 111, 109, 105, 99] := by simpa only [h4, h5, h6, h7, h8, h9, h10, h11, h12, false_or] using hm
       rw [e2]; rfl)
  refine IF (fun h6 => ?_) fun h6 => ?_
  · (try simp only [bsimp] at h6)
    refine AS fun _ _ _ g E => ?_
    refine RTN ?_
    obtain ⟨e, hn⟩ := Yjb hty h3
    rw [e]
    have hx := h6
    refine ⟨?_, g⟩
    first
    | (have e2 := of_decide_eq_true hx; rw [e2]; rfl)
    | (have hm := (Yma _ _).1 hn
       simp only [typeNames, List.mem_cons, List.not_mem_nil, or_false] at hm
       simp only [decide_eq_false_iff_not] at h4 h5 h6 h7 h8 h9 h10 h11 h12
       have e2 : t.text = [97, 116, 111, 109, 105, 99] := by simpa only [h4, h5, h6, h7, h8, h9, h10, h11, h12, false_or] using hm
       rw [e2]; rfl)
  refine IF (fun h7 => ?_) fun h7 => ?_
  · (try simp only [bsimp] at h7)
    refine AS fun _ _ _ g E => ?_
    refine RTN ?_
    obtain ⟨e, hn⟩ := Yjb hty h3
    rw [e]
    have hx := h7
    refine ⟨?_, g⟩
    first
    | (have e2 := of_decide_eq_true hx; rw [e2]; rfl)
    | (have hm := (Yma _ _).1 hn
       simp only [typeNames, List.mem_cons, List.not_mem_nil, or_false] at hm
       simp only [decide_eq_false_iff_not] at h4 h5 h6 h7 h8 h9 h10 h11 h12
       have e2 : t.text = [97, 116, 111, 109, 105, 99] := by simpa only [h4, h5, h6, h7, h8, h9, h10, h11, h12, false_or] using hm
       rw [e2]; rfl)
  refine IF (fun h8 => ?_) fun h8 => ?_
  · (try simp only [bsimp] at h8)
    refine AS fun _ _ _ g E => ?_
    refine RTN ?_
    obtain ⟨e, hn⟩ := Yjb hty h3
    rw [e]
    have hx := h8
    refine ⟨?_, g⟩
    first
    | (have e2 := of_decide_eq_true hx; rw [e2]; rfl)
    | (have hm := (Yma _ _).1 hn
       simp only [typeNames, List.mem_cons, List.not_mem_nil, or_false] at hm
       simp only [decide_eq_false_iff_not] at h4 h5 h6 h7 h8 h9 h10 h11 h12
       have e2 : t.text = [97, 116, 111, 109, 105, 99] := by simpa only [h4, h5, h6, h7, h8, h9, h10, h11, h12, false_or] using hm
       rw [e2]; rfl)
  refine IF (fun h9 => ?_) fun h9 => ?_
  · (try simp only [bsimp] at h9)
    refine AS fun _ _ _ g E => ?_
    refine RTN ?_
    obtain ⟨e, hn⟩ := Yjb hty h3
    rw [e]
    have hx := h9
    refine ⟨?_, g⟩
    first
    | (have e2 := of_decide_eq_true hx; rw [e2]; rfl)
    | (have hm := (Yma _ _).1 hn
       simp only [typeNames, List.mem_cons, List.not_mem_nil, or_false] at hm
       simp only [decide_eq_false_iff_not] at h4 h5 h6 h7 h8 h9 h10 h11 h12
       have e2 : t.text = [97, 116, 111, 109, 105, 99] := by simpa only [h4, h5, h6, h7, h8, h9, h10, h11, h12, false_or] using hm
       rw [e2]; rfl)
  refine IF (fun h10 => ?_) fun h10 => ?_
  · (try simp only [bsimp] at h10)
    refine AS fun _ _ _ g E => ?_
    refine RTN ?_
    obtain ⟨e, hn⟩ := Yjb hty h3
    rw [e]
    have hx := h10
    refine ⟨?_, g⟩
    first
    | (have e2 := of_decide_eq_true hx; rw [e2]; rfl)
    | (have hm := (Yma _ _).1 hn
       simp only [typeNames, List.mem_cons, List.not_mem_nil, or_false] at hm
       simp only [decide_eq_false_iff_not] at h4 h5 h6 h7 h8 h9 h10 h11 h12
       have e2 : t.text = [97, 116, 111, 109, 105, 99] := by simpa only [h4, h5, h6, h7, h8, h9, h10, h11, h12, false_or] using hm
       rw [e2]; rfl)
  refine IF (fun h11 => ?_) fun h11 => ?_
  · (try simp only [bsimp] at h11)
    refine AS fun _ _ _ g E => ?_
    refine RTN ?_
    obtain ⟨e, hn⟩ := Yjb hty h3
    rw [e]
    have hx := h11
    refine ⟨?_, g⟩
    first
    | (have e2 := of_decide_eq_true hx; rw [e2]; rfl)
    | (have hm := (Yma _ _).1 hn
       simp only [typeNames, List.mem_cons, List.not_mem_nil, or_false] at hm
       simp only [decide_eq_false_iff_not] at h4 h5 h6 h7 h8 h9 h10 h11 h12
       have e2 : t.text = [97, 116, 111, 109, 105, 99] := by simpa only [h4, h5, h6, h7, h8, h9, h10, h11, h12, false_or] using hm
       rw [e2]; rfl)
  refine IF (fun h12 => ?_) fun h12 => ?_
  · (try simp only [bsimp] at h12)
    refine AS fun _ _ _ g E => ?_
    refine RTN ?_
    obtain ⟨e, hn⟩ := Yjb hty h3
    rw [e]
    have hx := h12
    refine ⟨?_, g⟩
    first
    | (have e2 := of_decide_eq_true hx; rw [e2]; rfl)
    | (have hm := (Yma _ _).1 hn
       simp only [typeNames, List.mem_cons, List.not_mem_nil, or_false] at hm
       simp only [decide_eq_false_iff_not] at h4 h5 h6 h7 h8 h9 h10 h11 h12
       have e2 : t.text = [97, 116, 111, 109, 105, 99] := by simpa only [h4, h5, h6, h7, h8, h9, h10, h11, h12, false_or] using hm
       rw [e2]; rfl)
  refine AS fun _ _ _ g E => ?_
  refine RTN ?_
  obtain ⟨e, hn⟩ := Yjb hty h3
  rw [e]
  have hx := h12
  refine ⟨?_, g⟩
  first
  | (have e2 := of_decide_eq_true hx; rw [e2]; rfl)
  | (have hm := (Yma _ _).1 hn
     simp only [typeNames, List.mem_cons, List.not_mem_nil, or_false] at hm
     simp only [decide_eq_false_iff_not] at h4 h5 h6 h7 h8 h9 h10 h11 h12
     have e2 : t.text = [97, 116, 111, 109, 105, 99] := by simpa only [h4, h5, h6, h7, h8, h9, h10, h11, h12, false_or] using hm
     rw [e2]; rfl)
theorem Qye(t:Nd)(name:List UInt8)(v:Value)(D:Nat→Prop)(w:World)(hk:Kd w D t.kids v)(hc:count t≤1000000):Ret PP Vpd #[ndV t v,Str name] w fun r w'=>FldV (Zja t name) r w'∧G w w':=by
 obtain ⟨p,c,rfl,hcap,hks⟩:=hk;have g:=G.refl w;have hlen:=Up t;refine WK 73 [0,1] Jec ?_;refine BM fun _ w2 _ _ g E=>?_;refine AU ?_;refine Zfa (fun (i:Nat) u1=>(i≤t.kids.length∧∀ j,(hj:j<t.kids.length)→j<i→isStr name t.kids[j]=false)∧G w2 u1) [(1,True,_),(2,True,_)] (fun (i:Nat)=>[(6,True,.int .i64 i)]) (fun (i:Nat)=>t.kids.length-i) (0) ⟨⟨Nat.zero_le _,fun j _ hj=>absurd hj (Nat.not_lt_zero j)⟩,G.refl _⟩ (Za O (Za O (Za O (Zp _)))) ?_;rintro i u1 ⟨hI1,gl1⟩;have g:=g.trans gl1;replace E:=E.grow gl1;refine Zj (Zj (Zm (Zq O (Yj Zg O (Yq Zf O (E.g0.at_ O) (Xla Zd O (Xka O O (Ze (kq (Wm O (fun h1=>?_) (fun h1=>?_)))))))))));replace h1:i<t.kids.length:=by simp only [decide_eq_true_eq] at h1;omega
 obtain ⟨b,o,rfl,hD,xs,hR,hX⟩:=hks (by omega);obtain ⟨p',c',hcell,hkid⟩:=Xjb hR hX h1;have hck:=Zsa h1;have hkl:=Up t.kids[i];refine Ya (kq (Zj (Yv (Zj (Zm (Yj Zg O (Yq Zf O (E.g0.at_ O) (Zq O (Zfb Zd O O (by omega) (Vf Zh O O (hcell.grow g) (AN fun _ _ ga _ g E=>?_)))))))))));have l7_gl1:=ga.ge gl1;have gl1:=gl1.trans (ga.g);refine AS fun wS1 ga _ g E=>?_;first|replace gl1:=Yb gl1 ga (by omega)|clear gl1|skip
 refine IF (fun h2=>?_) fun h2=>?_;replace h2:(!decide (t.kids[i].kind=2) || !decide (t.kids[i].text=name))=true:=h2;refine AU ?_;refine SK [6,1,2] ?_;refine Ze (fun a ha=>?_)
 exact ⟨i+1,ha,⟨⟨h1,fun j hj1 hj=>by
  by_cases e:j=i;subst e;unfold isStr;rw [h2];rfl;exact hI1.2 j hj1 (by omega)⟩,gl1⟩,by omega⟩
 replace h2:(!decide (t.kids[i].kind=2) || !decide (t.kids[i].text=name))=false:=h2;have hf:=Wkg h1 hI1.2 (by unfold isStr;rw [h2];rfl)
 have hN:Zja t name=match mapO Zab t.kids[i].kids with
  | none=>([],false)
  | some l=>(l,true):=by unfold Zja;rw [hf];try rfl
 obtain ⟨p2,c2,hpe,hcap2,hks2⟩:=hkid;injection hpe with hpe _ hce;subst hpe hce;have hb2:=E.g1.lt;have hb7:=E.g0.lt;refine AU ?_;refine Zfa (fun (x:Nat×Option Addr×Nat×List Fld) u2=>match x with|⟨k,a,ca,l⟩=>(k≤t.kids[i].kids.length∧mapO Zab (t.kids[i].kids.take k)=some l∧u2.ownsRow wS1.heap.size Qya 3 (.slice a l.length ca) l.length (l.flatMap fldCells))∧G wS1 u2) [(1,True,_),(2,True,_),(6,True,_),(7,True,_)] (fun (x:Nat×Option Addr×Nat×List Fld)=>match x with|⟨k,a,ca,l⟩=>[(8,True,.slice a l.length ca),(9,True,.int .i64 k)]) (fun (x:Nat×Option Addr×Nat×List Fld)=>match x with|⟨k,a,ca,l⟩=>t.kids[i].kids.length-k) ((0,none,0,[])) ⟨⟨Nat.zero_le _,rfl,Zga _ _ _ _⟩,G.refl _⟩ (Za O (Za O (Za O (Za O (Za O (Za O (Zp _))))))) ?_;rintro ⟨k,a,ca,l⟩ u2 ⟨hI2,gl2⟩;have g:=g.trans gl2;have gl1:=gl1.trans gl2;replace E:=E.grow gl2;obtain ⟨hk,hm,hO⟩:=hI2;have hll:=Xjd Zab _ _ hm;rw [List.length_take] at hll;refine Zj (Zj (Zm (Zq O (Yj Zg O (Yq Zf O (E.g0.at_ O) (Xla Zd O (Xka O O (Ze (kq (Wm O (fun h3=>?_) (fun h3=>?_)))))))))));replace h3:k<t.kids[i].kids.length:=by simp only [decide_eq_true_eq] at h3;omega
 obtain ⟨b2,o2,rfl,hD2,xs2,hR2,hX2⟩:=hks2 (by omega);obtain ⟨p3,c3,hcell3,hkid3⟩:=Xjb hR2 hX2 h3;have hck3:=Zsa h3;refine Ya (kq (Zj (Yv (Zj (Zm (Yj Zg O (Yq Zf O (E.g0.at_ O) (Zq O (Zfb Zd O O (by omega) (Vf Zh O O (hcell3.grow g) (?_)))))))))));have hlt10:=fun k hk=>(hO.lt k hk).2;refine AN fun b10 _ N10 _ g E=>?_;have l10_gl1:=N10.ge gl1;have l10_gl2:=N10.ge gl2;have gl1:=gl1.trans (N10.g);have gl2:=gl2.trans (N10.g);have hO:=Xz hO (N10.g);have ne10:(Value.slice a l.length ca).ownBlock≠some b10:=fun h=>by have:=hlt10 _ h;have:=N10.at_;omega
 refine AS fun _ ga _ g E=>?_;first|replace gl1:=Yb gl1 ga (by omega)|clear gl1|skip
 first|replace gl2:=Yb gl2 ga (by omega)|clear gl2|skip
 have hO:=Xw hO ga (.inr ne10);refine IF (fun h4=>?_) fun h4=>?_;replace h4:(!decide (t.kids[i].kids[k].kind=3) || !decide ((t.kids[i].kids[k].kids.length:Int)=1))=true:=h4;have hbad:=Xid Zab _ _ (List.getElem_mem h3) (by unfold Zab;rw [h4];rfl);refine Zj (Zm (Yo O (Yo O (Ze (kq (Xd (Xzb (ts:=[4,5]) (vs:=[_,_]) O O O ?_)))))));rw [hN,hbad];exact ⟨⟨_,rfl,Qzb _⟩,g⟩;replace h4:(!decide (t.kids[i].kids[k].kind=3) || !decide ((t.kids[i].kids[k].kids.length:Int)=1))=false:=h4
 have h1k:t.kids[i].kids[k].kids.length=1:=by
  simp only [Bool.or_eq_false_iff,Bool.not_eq_false',decide_eq_true_eq] at h4;omega
 obtain ⟨h0k,ek⟩:=Wng h1k;obtain ⟨p4,c4,hpe4,_,hks4⟩:=hkid3;injection hpe4 with hpe4 _ hce4;subst hpe4 hce4;obtain ⟨b4,o4,rfl,hD4,xs4,hR4,hX4⟩:=hks4 (by omega);obtain ⟨p5,c5,hcell5,_⟩:=Xjb hR4 hX4 h0k;refine Ya (kq (Zj (Zm (Yj Zg O (Yq Zf O (E.g0.at_ O) (Zo O (fun _=>Qea Zd (Zc O) Xg (fun _=>by show (0:Int)≤0∧(0:Int)<((t.kids[i].kids[k].kids.length:Nat):Int);omega)) (Vf Zh O O (hcell5.grow g) (Vh O (Yl Ynb Vi (aqc O aq0) O) (Vbb _ _ _ _) (fun w60 g60=>?_)))))))));have g:=g.trans g60;have gl1:=gl1.trans (g60);have gl2:=gl2.trans (g60);replace E:=E.grow g60;have hO:=Xz hO (g60);refine AU ?_;have hlt11:=fun k hk=>(hO.lt k hk).2;refine AN fun b11 _ N11 _ g E=>?_;have l11_gl1:=N11.ge gl1;have l11_gl2:=N11.ge gl2;have gl1:=gl1.trans (N11.g);have gl2:=gl2.trans (N11.g);have hO:=Xz hO (N11.g);have ne11:(Value.slice a l.length ca).ownBlock≠some b11:=fun h=>by have:=hlt11 _ h;have:=N11.at_;omega
 refine AS fun _ ga _ g E=>?_;first|replace gl1:=Yb gl1 ga (by omega)|clear gl1|skip
 first|replace gl2:=Yb gl2 ga (by omega)|clear gl2|skip
 have hO:=Xw hO ga (.inr ne11);refine IF (fun h5=>?_) fun h5=>?_;replace h5:(!(ofF t.kids[i].kids[k].kids[0]).2)=true:=h5;have hbad:=Xid Zab _ _ (List.getElem_mem h3) (by unfold Zab;rw [h4,ek];simp only [Bool.not_eq_true'] at h5;rw [h5];rfl);refine Zj (Zm (Yo O (Yo O (Ze (kq (Xd (Xzb (ts:=[4,5]) (vs:=[_,_]) O O O ?_)))))));rw [hN,hbad];exact ⟨⟨_,rfl,Qzb _⟩,g⟩;replace h5:(!(ofF t.kids[i].kids[k].kids[0]).2)=false:=h5;have hgood:Zab t.kids[i].kids[k]=some ⟨t.kids[i].kids[k].text,(ofF t.kids[i].kids[k].kids[0]).1⟩:=by unfold Zab;rw [h4,ek];simp only [Bool.not_eq_false'] at h5;rw [h5];rfl
 refine Ya (kq (Zm (Zq O (Yj Yn O (Yq Yg O (E.g1.at_ O) (Vf Xb O O E.g0.row (Zba Wwb Wvc (pqc O (pqc O pq0)) O O (CN fun _ _ ga _ g E=>?_))))))));have l70_gl1:=ga.ge gl1;have l70_gl2:=ga.ge gl2;have gl2:=gl2.trans (ga.g);have hO:=Xz hO (ga.g);refine Jc O Xaa Wwb O (by decide) (Zc O) hO (Zc O) O E.g0.row O (by simp only [maxLen];omega) (by omega) (by have:=gl2.size;omega) ?_;intro a' c' w71 hO' hg71 hat;have hOg:=fun k hk=>(hO.lt k hk).1;have g:=Jh g hg71 (fun k hk=>by have:=hOg k hk;omega);replace gl2:=Jh gl2 hg71 hOg;replace E:=E.sel [false,false,false,true,true];replace E:=E.keep hg71 (List.forall_mem_cons.2 ⟨((fun he=>by have:=hOg _ he.symm;omega)),List.forall_mem_cons.2 ⟨((fun he=>by have:=hOg _ he.symm;omega)),List.forall_mem_nil _⟩⟩);have hO2:=Qnf ⟨t.kids[i].kids[k].text,(ofF t.kids[i].kids[k].kids[0]).1⟩ hO';refine AU ?_;refine SK [8,9,1,2,6,7] ?_;refine Ze (fun a ha=>?_);refine ⟨(k+1,a',c',l++[⟨t.kids[i].kids[k].text,(ofF t.kids[i].kids[k].kids[0]).1⟩]),?_,⟨⟨h3,Qmf h3 hm hgood,hO2⟩,gl2⟩,by show t.kids[i].kids.length-(k+1)<t.kids[i].kids.length-k;omega⟩;simpa using ha;replace h3:k=t.kids[i].kids.length:=by simp only [decide_eq_false_iff_not] at h3;omega
 subst h3;rw [List.take_length] at hm;refine RTN ?_;rw [hN,hm];exact ⟨⟨_,rfl,Wmg hO⟩,g⟩;replace h1:i=t.kids.length:=by simp only [decide_eq_false_iff_not] at h1;omega
 subst h1;refine RTN ?_;have hN:Zja t name=([],false):=by unfold Zja;rw [Wlg fun j hj=>hI1.2 j hj (by omega)]
 rw [hN];exact ⟨⟨_,rfl,Qzb _⟩,g⟩
theorem Wh{F:Nd}{n0 b:Nat}{S:CSt}{w:World}(a e:Int)(h:Chk F n0 b S w):Ret PP Zmc #[.pointer (some ⟨b,0,none⟩),.int .i64 a,.int .i64 e] w fun r w'=>r = .tuple #[]∧Chk F n0 b (failS a e S) w'∧GT mutR n0 w w':=by
 obtain ⟨fv,sv,sn,h⟩:=h;have g:=GT.refl mutR n0 w;refine WK 19 [0,1,2] Vob ?_;refine IF (fun h1=>?_) fun h1=>?_;(try simp only [bsimp] at h1);refine AU ?_;refine Xi O Va (Zc O) (Zc O) O O h.B O O ?_;intro wA hgA hzA BA;have g:=Wu g hgA h.B rfl h.hb;have h:=h.set (S':={ S with ea:=a }) hgA BA rfl rfl;refine AU ?_;refine Xi O Wsc (Zc O) (Zc O) O O h.B O O ?_;intro wC hgC hzC BC;have g:=Wu g hgC h.B rfl h.hb;have h:=h.set (S':={ S with ea:=a,ee:=e }) hgC BC rfl rfl;refine Ze (Qj O ?_);refine ⟨rfl,?_,g⟩;unfold failS;rw [h1];exact h.chk;refine Ya (Qj O ?_);refine ⟨rfl,?_,g⟩;unfold failS;rw [h1];exact h.chk
theorem Vn(t:Nd)(p:Option Addr)(c:Nat)(w:World):Ret PP Jfd #[ndV t (.slice p t.kids.length c)] w fun r w'=>r=ndV (clnT t) (.slice none 0 0)∧G w w':=by
 have g:=G.refl w;refine WK 16 [0] Yed ?_;refine Zj (Zm (BM fun _ _ _ _ g E=>?_));refine AN fun _ _ _ _ g E=>?_;refine Ze (kq (Zj (Zm (Yj Xm O (Yq Yd O (E.g1.at_ O) (Yj Yn O (Yq Yg O (E.g1.at_ O) (Yj Vg O (Yq Yd O (E.g1.at_ O) (Zba Zu Xn (pqc O (pqc O (pqc O pq0))) O O (CL (Wte (.mk t.kind t.text t.num 0 [] ty0 0 0) _ O) ?_)))))))))));rintro _ _ ⟨rfl,ga⟩;refine RC fun g E=>?_;refine AN fun b3 _ _ _ g E=>?_;refine AS fun _ _ _ g E=>?_;refine AS fun wS2 _ _ g E=>?_;refine AU ?_
 have B3:Blk wS2 b3 Ys (ndCells (clnT t) (.slice none 0 0)):=by
  have h:=E.g0;rw [Jdb] at h;exact h
 replace E:=E.r0 B3;refine AS fun _ _ _ g E=>?_;refine RTN ?_;exact ⟨rfl,g⟩
theorem Jtf:∀ (t:Nd) (v:Value) (D:Nat→Prop) (w:World),Kd w D t.kids v→count t≤1000000→Ret PP Uyc #[ndV t v] w fun r w'=>RetN (plainT t) w.heap.size r w'∧G w w':=by
 refine Nd.ind fun t ih v D w hk hc=>?_;have hlen:=Up t;obtain ⟨p,c,rfl,hcap,hks⟩:=hk;have g:=G.refl w;refine WK 26 [0] Wwd ?_;refine BM fun b1 _ _ _ g E=>?_;refine AN fun b2 _ _ _ g E=>?_;refine AU ?_;refine CL (Vn t _ _ _) ?_;rintro _ _ ⟨rfl,ga⟩;refine RC fun g E=>?_;refine AN fun b3 _ _ _ g E=>?_;refine AS fun wS1 _ _ g E=>?_;refine AU ?_
 have B3:Blk wS1 b3 Ys (ndCells (plainT t) (.slice none 0 0)):=by
  have h:=E.g0;rw [Qhc];exact h
 replace E:=E.r0 B3;refine AU ?_;have hnd1:=E.1;refine We (fun (i:Nat) u1=>(i≤t.kids.length∧∃ s,Blk u1 b3 Ys (ndCells (plainT t) s)∧OwnN [b1,b2,b3] w.heap.size u1 ((t.kids.take i).map plainT) s)∧G w u1) _ [(1,True,_),(2,True,_),(3,True,_)] (fun (i:Nat)=>[(4,True,.int .i64 i)]) (fun (i:Nat)=>t.kids.length-i) (0) ⟨⟨Nat.zero_le _,_,E.g0,Wma _ _ _⟩,g⟩ (Zs (blkE E.g2) (Zs (blkE E.g1) (Yh _))) (Za O (Za O (Za O (Za O (Zp _))))) ?_;clear E;rintro i u1 ⟨hI1,gl1⟩ ⟨B1,B2,_⟩;replace B1:Blk _ _ _ _:=B1;replace B2:Blk _ _ _ _:=B2;have g:=gl1;obtain ⟨hi,s,B3,hO⟩:=hI1;obtain ⟨sa,sc,rfl⟩:=hO.slice;have E:=Zha (L:=[(b3,_,_),(b2,_,_),(b1,_,_)]) hnd1 ⟨B3,B2,B1,trivial⟩ rfl;refine IF (fun h1=>?_) fun h1=>?_;replace h2:i<t.kids.length:=by simp only [decide_eq_true_eq] at h1;omega
 obtain ⟨b,o,rfl,hD,xs,hR,hX⟩:=hks (by omega);obtain ⟨p',c',hcell,hkid⟩:=Xjb hR hX h2;have hck:=Zsa h2;have hkl:=Up t.kids[i];have hu:=g.size;refine Ya (kq (Zj (Yv (Xe [3,0,3,0,3,3,0,1,1,2,3,2] [true,true,true,true,true,true,true,true,true,true,true,true] [0,1,0,4,0,28,60,124,252,511,1023,2047] mix (by kernel_rfl) ?_))));have g:=gdr g;replace E:=E.dr;have hO:=hO.grow (G.drew _);have hB1lt:=E.g2.lt;have hB2lt:=E.g1.lt;have hB3lt:=E.g0.lt;have hOlt:=hO.lt;refine Yj Zg O (Yq Zf O (E.g0.at_ O) (Yj Zg O (Yq Zf O (E.g2.at_ O) (Zq O (Zfb Zd O O (by omega) (Vf Zh O O (hcell.grow g) (CL (ih _ (List.getElem_mem h2) _ _ _ (hkid.grow g) (by omega)) ?_)))))));rintro _ _ ⟨⟨p2,c2,rfl,hk2⟩,ga⟩;refine RC fun g E=>?_;have hO:=Uk hO;refine CN fun _ _ N22 _ g E=>?_;have hO:=hO.grow (N22.g);have hk2:=hk2.grow N22.g;have hOo:=hO;refine Xx O Zd Zu O (Zc O) hO (Zc O) O E.g0.row (Yc (hk2.mono fun k hk _=>⟨⟨⟨by have:u1.heap.size≤k:=hk.1;omega,by have:u1.heap.size≤k:=hk.1;have:=hB1lt;have:=hB2lt;have:=hB3lt;simp;omega⟩,hk.2⟩,fun he=>by have:=hOlt k he.symm;have:u1.heap.size≤k:=hk.1;omega⟩)) (by simp;omega) (by have:=g.size;omega) ⟨by have:=g.size;omega,by have q1:=E.g3.lt;have q2:=E.g2.lt;have q3:=E.g1.lt;simp;omega⟩ ?_;intro a23 c23 w23 hO hg23;replace E:=E.sel [false,true,true,true];replace E:=E.keepX hg23 hOo.ne (by simp [selB]);have g:=Jh g hg23 (fun k hk=>hOo.ge k hk);refine AS fun _ ga _ g E=>?_;have hO:=Ua hO;refine AU ?_;refine SK [4,1,2,3] ?_;refine Ze (fun a ha=>?_);exact ⟨i+1,ha,⟨⟨h2,_,E.g0,by rw [Yna h2,List.map_append];exact hO⟩,g⟩,(Zs (blkE E.g2) (Zs (blkE E.g1) (Yh _))),by omega⟩
 replace h2:i=t.kids.length:=by simp only [decide_eq_false_iff_not] at h1;omega
 subst h2;rw [List.take_length] at hO E;refine AS fun _ ga _ g E=>?_;have hO:=Ua hO;refine RTN ?_;exact ⟨Znf (by rw [Xsa];exact hO.kd),g⟩
theorem Yoa(F:Nd)(v:Value)(D:Nat→Prop)(w:World)(kd:Int)(s:List UInt8)(hk:Kd w D F.kids v)(hc:count F≤1000000):Ret PP Xae #[ndV F v,.int .i64 kd,Str s] w fun r w'=>(∃ p c,r = .tuple #[ndV (findD F kd s).1 (.slice p (findD F kd s).1.kids.length c),.int .i64 (findD F kd s).2]∧Kd w' D (findD F kd s).1.kids (.slice p (findD F kd s).1.kids.length c))∧G w w':=by
 obtain ⟨p,c,rfl,hcap,hks⟩:=hk;have hln:=Up F;have g:=G.refl w;refine WK 42 [0,1,2] Wxd ?_;refine BM fun _ _ _ _ g E=>?_;refine AN fun _ w6 _ _ g E=>?_;refine Yo rfl (Ze (kq (Zj (Zm (Yo rfl (Ze (kq (Zj (Zj (Zm (Yo rfl (Ze (kq (Yv (Zfa (fun (x:Nat×Nat) u1=>match x with|⟨i,k⟩=>(i≤F.kids.length∧k≤i∧findD F kd s=findK kd s (F.kids.drop i) k)∧G w6 u1) [(1,True,_),(2,True,_),(3,True,_),(6,True,_)] (fun (x:Nat×Nat)=>match x with|⟨i,k⟩=>[(8,True,.int .i64 k),(9,True,.int .i64 i)]) (fun (x:Nat×Nat)=>match x with|⟨i,k⟩=>F.kids.length-i) (0,0) ⟨⟨Nat.zero_le _,Nat.le_refl _,rfl⟩,G.refl _⟩ (Za rfl (Za rfl (Za rfl (Za rfl (Za rfl (Za rfl (Zp _))))))) ?_)))))))))))))));rintro ⟨i,k⟩ u1 ⟨hI1,gl1⟩;have g:=g.trans gl1;replace E:=E.grow gl1;obtain ⟨hi,hki,hF⟩:=hI1;refine Zj (Zj (Zm (Zq O (Yj Zg O (Yq Zf O (E.g1.at_ O) (Xla Zd O (Xka O O (Ze (kq (Wm O (fun h1=>?_) (fun h1=>?_)))))))))));replace h1:i<F.kids.length:=by simp only [decide_eq_true_eq] at h1;omega
 obtain ⟨b,o,rfl,hD,xs,hR,hX⟩:=hks (by omega);obtain ⟨p',c',hcell,hkid⟩:=Xjb hR hX h1;rw [List.drop_eq_getElem_cons h1,findK] at hF;refine Ya (kq (Zj (Yv (Zj (Zj (Zm (Yj Zg O (Yq Zf O (E.g1.at_ O) (Zq O (Zfb Zd O O (by omega) (Yj Xm O (Yq Yd O ((hcell.grow g).one (i:=0) O) (Zq O (Zud O O (Ze (kq (Wm O (fun h2=>?_) (fun h2=>?_))))))))))))))))));have hq:decide (F.kids[i].kind=kd)=false:=by simpa using h2
 rw [hq,cond_false] at hF;refine Qs O (kq (Zm (Zq O (Qqa O O (by omega) (Yo O (Vc [(8,_,_),(9,_,_),(1,_,_),(2,_,_),(3,_,_),(6,_,_)] (Za O (Za O (Za O (Za O (Za O (Za O (Zp _))))))) (Ze (fun a ha=>?_))))))));exact ⟨(i+1,k),ha,⟨⟨h1,by omega,hF⟩,gl1⟩,by show _-(i+1)<_-i;omega⟩;have hq:decide (F.kids[i].kind=kd)=true:=by simpa using h2
 rw [hq,cond_true] at hF;refine Ya (kq (Zj (Zj (Zm (Yj Zg O (Yq Zf O (E.g1.at_ O) (Zq O (Zfb Zd O O (by omega) (Yj Yn O (Yq Yg O ((hcell.grow g).one (i:=1) O) (Zq O (Qsd O O (Ze (kq (Wm O (fun h3=>?_) (fun h3=>?_))))))))))))))));rw [h3,cond_true] at hF;refine Zj (Zm (Yj Zg O (Yq Zf O (E.g1.at_ O) (Zq O (Zfb Zd O O (by omega) (Vf Zh O O (hcell.grow g) (Zq O (AS fun _ ga _ g E=>?_))))))));first|replace gl1:=Yb gl1 ga (by omega)|clear gl1|skip
 refine RTN ?_;rw [hF];exact ⟨⟨p',c',rfl,hkid.grow g⟩,g⟩;rw [h3,cond_false] at hF;refine AU ?_;refine SK [8,9,1,2,3,6] ?_;refine Ze (fun a ha=>?_);exact ⟨(i+1,k+1),ha,⟨⟨h1,by omega,hF⟩,gl1⟩,by show _-(i+1)<_-i;omega⟩;replace h1:i=F.kids.length:=by simp only [decide_eq_false_iff_not] at h1;omega
 rw [List.drop_of_length_le (by omega),findK] at hF;refine AS fun _ ga _ g E=>?_;first|replace gl1:=Yb gl1 ga (by omega)|clear gl1|skip
 refine RTN ?_;rw [hF];exact ⟨⟨none,0,rfl,Jya _ _⟩,g⟩
theorem Jkb{F:Nd}{n0 b:Nat}{S:CSt}{w:World}(t:Nd)(p:Option Addr)(c:Nat)(h:Chk F n0 b S w):Ret PP Wcb #[.pointer (some ⟨b,0,none⟩),ndV t (.slice p t.kids.length c)] w fun r w'=>r = .tuple #[]∧Chk F n0 b (pointerS F t S) w'∧GT mutR n0 w w':=by
 obtain ⟨fv,sv,sn,h⟩:=h;have hlt:=h.lt;have g:=GT.refl mutR n0 w;refine WK 25 [0,1] Ybb ?_;refine BM fun _ _ ga _ g E=>?_;have h:=Ui h;refine IF (fun h1=>?_) fun h1=>?_;(try simp only [bsimp] at h1);refine AU ?_;refine Xu (rowR none) [3,3,3,0,3,0,1,3,3,3,1,2,3] [0,1,3,7,0,16,63,127,255,255,0,1535,4095] mix (by kernel_rfl) [0,1,2,3,4,5,6,7,8,9,10,11,12] O ?_;have g:=gtd g;replace E:=E.dr;have h:=h.grow (G.drew _);refine Zx 0 O O (fun _=>Zl (Zc O)) (Zx 1 O O (fun _=>Jo (Zc O)) (Zx 2 O O (fun _=>Zn Wd (Zc O)) (Wf 3 O O (fun w1 hx=>Zy Zh (Zc O) O (fun _=>(h.B.keep hx (by intro q;first|(injection q with q;omega)|cases q)).row.part 0 9)) (Zx 4 O O (fun _=>Zn Yn (Zc O)) (Wf 5 O O (fun w1 hx=>Zt Yg (Zc O) (fun _=>(E.g0.keep hx (fun h=>nomatch h)).at_ O)) (Uua 6 10 O O ?_ ?_))))));refine Zw (L':=[7,8,9,10,11,12]) [3,3,3,0,3,0,1,3,3,3,1,2,3] rfl rfl rfl ?_;refine CL (Yoa F fv _ _ 2 t.text h.kF h.hF) ?_;rintro v16 w16 ⟨⟨p16,c16,rfl,hk16⟩,g16⟩;refine ⟨fun _=>g16,?_⟩;have g:=gtg g g16;replace E:=E.grow g16;have h:=h.grow (g16);refine Yi ((g16).only _) ?_;refine Zx 7 O O (fun _=>Zl (Zc O)) (Zx 8 O O (fun _=>Xs (Zc O) O) (Zx 9 O O (fun _=>Xs (Zc O) O) (Zv 10 O O ?_)));refine Zw (L':=[11,12]) [3,3,3,0,3,0,1,3,3,3,1,2,3] O O O ?_;refine AN fun _ _ N4 l4 g E=>?_;have h:=h.grow (N4.g);refine Yi ((N4.g).only _) ?_;refine Zv 11 O O ?_;refine Yf (L':=[12]) [3,3,3,0,3,0,1,3,3,3,1,2,3] O O O O ?_;refine AS fun _ ga Ca g E=>?_;have h:=Ub h;refine Yx ?_;refine Zx 12 O O (fun _=>Yt (Zc O)) (TK [0,3,5] (Qk (kq (Zj (Zm (Zq O (Xka O O (Ze (kq (Wm O (fun h2=>?_) (fun h2=>?_)))))))))));(try simp only [bsimp] at h2);refine AU ?_
 refine CL (Wh t.pos 5 h.chk) ?_;rintro _ _ ⟨rfl,h,ga⟩;refine RC fun g E=>?_;refine Ze (Qj O ?_);refine ⟨rfl,?_,g⟩;unfold pointerS failU;simp only [h1,h2,cond_true,cond_false,Bool.not_true,Bool.not_false];first|exact h|exact h.chk
 refine Ya (Qj O ?_);refine ⟨rfl,?_,g⟩;unfold pointerS failU;simp only [h1,h2,cond_true,cond_false,Bool.not_true,Bool.not_false];first|exact h|exact h.chk
 refine Zw (L':=[6,7,8,9,11,12]) [3,3,3,0,3,0,1,3,3,3,1,2,3] rfl rfl rfl ?_;refine AN fun _ _ N4 _ g E=>?_;have h:=h.grow (N4.g);refine Yi ((N4.g).only _) ?_;refine Zv 6 O O ?_;refine Zw (L':=[7,8,9,11,12]) [3,3,3,0,3,0,1,3,3,3,1,2,3] O O O ?_;refine CL (Yoa F fv _ _ 2 t.text h.kF h.hF) ?_;rintro v16 w16 ⟨⟨p16,c16,rfl,hk16⟩,g16⟩;refine ⟨fun _=>g16,?_⟩;have g:=gtg g g16;replace E:=E.grow g16;have h:=h.grow (g16);refine Yi ((g16).only _) ?_;refine Zx 7 O O (fun _=>Zl (Zc O)) (Zx 8 O O (fun _=>Xs (Zc O) O) (Zx 9 O O (fun _=>Xs (Zc O) O) (Zv 11 O O ?_)));refine Yf (L':=[12]) [3,3,3,0,3,0,1,3,3,3,1,2,3] O O O O ?_;refine AS fun _ ga Ca g E=>?_;have h:=Ub h;refine Yx ?_;refine Zx 12 O O (fun _=>Yt (Zc O)) (TK [0,3,5] (Qk (kq (Zj (Zm (Zq O (Xka O O (Ze (kq (Wm O (fun h2=>?_) (fun h2=>?_)))))))))));(try simp only [bsimp] at h2);refine AU ?_;refine CL (Wh t.pos 5 h.chk) ?_;rintro _ _ ⟨rfl,h,ga⟩;refine RC fun g E=>?_;refine Ze (Qj O ?_);refine ⟨rfl,?_,g⟩;unfold pointerS failU;simp only [h1,h2,cond_true,cond_false,Bool.not_true,Bool.not_false];first|exact h|exact h.chk
 refine Ya (Qj O ?_);refine ⟨rfl,?_,g⟩;unfold pointerS failU;simp only [h1,h2,cond_true,cond_false,Bool.not_true,Bool.not_false];first|exact h|exact h.chk
 refine Ya (Qj O ?_);refine ⟨rfl,?_,g⟩;unfold pointerS failU;simp only [h1,cond_true,cond_false,Bool.not_true,Bool.not_false];first|exact h|exact h.chk
theorem Urc{F:Nd}{n0 b:Nat}{S:CSt}{w:World}(t:Nd)(p:Option Addr)(c:Nat)(h:Chk F n0 b S w):Ret PP Uyb #[.pointer (some ⟨b,0,none⟩),ndV t (.slice p t.kids.length c)] w fun r w'=>r=tyV (ofF t).1∧Chk F n0 b (localS F t S) w'∧GT mutR n0 w w':=by
 have hlt:=h.lt;have g:=GT.refl mutR n0 w;refine WK 23 [0,1] Wfb ?_;refine BM fun _ _ ga _ g E=>?_;have h:=Ui h;refine AN fun _ _ ga _ g E=>?_;have h:=Ui h;refine AU ?_;refine CL (Jkb t _ _ h) ?_;rintro _ _ ⟨rfl,h,ga⟩;refine RC fun g E=>?_;refine AU ?_;refine CP (Vbb t _ _ _) (fun w12 g12=>?_);have g:=gtg g g12;replace E:=E.grow g12;have h:=h.grow (g12);refine AN fun _ _ ga _ g E=>?_;have h:=Ui h;refine AS fun _ ga Ca g E=>?_;have h:=Ub h;refine AU ?_;refine CP (Jfa _ _) (fun w16 g16=>?_);have g:=gtg g g16;replace E:=E.grow g16;have h:=h.grow (g16);refine IF (fun h1=>?_) fun h1=>?_;have hv:Jt (ofF t).1=false:=by simpa using h1
 refine AU ?_;refine CL (Wh t.pos 7 h) ?_;rintro _ _ ⟨rfl,h,ga⟩;refine RC fun g E=>?_;refine AS fun _ ga Ca g E=>?_;have h:=Ub h;refine RTN ?_;refine ⟨rfl,?_,g⟩;unfold localS failU;rw [hv];exact h;have hv:Jt (ofF t).1=true:=by simpa using h1
 refine AS fun _ ga Ca g E=>?_;have h:=Ub h;refine RTN ?_;refine ⟨rfl,?_,g⟩;unfold localS failU;rw [hv];exact h
theorem Wue{F:Nd}{n0 b:Nat}{S:CSt}{w:World}(h:Chk F n0 b S w)(hs:S.scope≤100000000):Ret PP Zsc #[.pointer (some ⟨b,0,none⟩)] w fun r w'=>r = .tuple #[]∧Chk F n0 b (openS S) w'∧GT mutR n0 w w':=by
 obtain ⟨fv,sv,sn,h⟩:=h;have g:=GT.refl mutR n0 w;refine WK 9 [0] Vwb ?_;refine AU ?_;refine Xi O Va (Zc O) (Zc O) O O h.B O O ?_;intro wA hgA hzA BA;have g:=Wu g hgA h.B rfl h.hb;have h:=h.set (S':=openS S) hgA BA rfl rfl;refine Ze (Qj O ?_);exact ⟨rfl,h.chk,g⟩
theorem Xba{F:Nd}{n0 b:Nat}{S:CSt}{w:World}(t:Nd)(p:Option Addr)(c:Nat)(k a:Int)(h:Chk F n0 b S w):Ret PP Zrc #[.pointer (some ⟨b,0,none⟩),ndV t (.slice p t.kids.length c),.int .i64 k,.int .i64 a] w fun r w'=>r = .tuple #[]∧Chk F n0 b (wantS t k a S) w'∧GT mutR n0 w w':=by
 have hlt:=h.lt;have g:=GT.refl mutR n0 w;refine WK 16 [0,1,2,3] Vvb ?_;refine BM fun _ _ ga _ g E=>?_;have h:=Ui h;refine IF (fun h1=>?_) fun h1=>?_;have hv:decide (t.ty.kind=k)=false:=by simpa using h1
 refine AU ?_;refine CL (Wh a 7 h) ?_;rintro _ _ ⟨rfl,h,ga⟩;refine RC fun g E=>?_;refine Ze (Qj O ?_);refine ⟨rfl,?_,g⟩;unfold wantS failU;rw [hv];exact h;have hv:decide (t.ty.kind=k)=true:=by simpa using h1
 refine Ya (Qj O ?_);refine ⟨rfl,?_,g⟩;unfold wantS failU;rw [hv];exact h
theorem Wpf{l:List Vr}{sc:Nat}(h:(decide ((l.length:Int)>0)&&decide (((lst l).scope:Int)=sc))=true):0<l.length∧dropV sc l=dropV sc l.dropLast:=by
 simp only [Bool.and_eq_true,decide_eq_true_eq] at h;rcases List.eq_nil_or_concat l with e|⟨a,x,e⟩;subst e;simp at h;rw [List.concat_eq_append] at e;subst e;have hx:x.scope=sc:=by have:=h.2;simp [lst] at this;omega
 refine ⟨by simp,?_⟩;rw [List.dropLast_concat];unfold dropV;rw [List.reverse_append,List.reverse_singleton,List.singleton_append,List.dropWhile_cons_of_pos (by simp [hx])]
theorem Wqf{l:List Vr}{sc:Nat}(h:(decide ((l.length:Int)>0)&&decide (((lst l).scope:Int)=sc))=false):dropV sc l=l:=by
 rcases List.eq_nil_or_concat l with e|⟨a,x,e⟩;subst e;rfl;rw [List.concat_eq_append] at e;subst e
 have hx:x.scope≠sc:=by
  intro e;rw [Bool.and_eq_false_iff] at h;rcases h with h|h;simp at h;simp [lst,e] at h
 unfold dropV;rw [List.reverse_append,List.reverse_singleton,List.singleton_append,List.dropWhile_cons_of_neg (by simp [hx]),List.reverse_cons,List.reverse_reverse]
theorem Jqg{l:List Vr}(h:0<l.length):lst l=l[l.length-1]:=by
 rw [lst,List.getLast?_eq_getElem?,List.getElem?_eq_getElem (by omega)];rfl
theorem Vic{F:Nd}{n0 b:Nat}{S:CSt}{w:World}(h:Chk F n0 b S w)(hs:S.scope≤100000000)(hs1:1≤S.scope)(hv:S.vars.length≤100000000):Ret PP Ztc #[.pointer (some ⟨b,0,none⟩)] w fun r w'=>r = .tuple #[]∧Chk F n0 b (shutS S) w'∧GT mutR n0 w w':=by
 have g:=GT.refl mutR n0 w;refine WK 49 [0] Vxb ?_;refine Zj (Yv (Zfa (fun (l:List Vr) u1=>(Chk F n0 b { S with vars:=l } u1∧dropV S.scope S.vars=dropV S.scope l∧l.length≤100000000)∧GT mutR n0 w u1) [(0,True,_)] (fun (l:List Vr)=>[]) (fun (l:List Vr)=>l.length) (S.vars) ⟨⟨h,rfl,hv⟩,GT.refl _ _ _⟩ (Za O (Zp _)) ?_));rintro l u1 ⟨hI1,gl1⟩;have g:=g.trans gl1;obtain ⟨⟨fv,sv,sn,h⟩,hd,hl⟩:=hI1;have hs2:({ S with vars:=l }:CSt).scope≤100000000:=hs;have hs3:1≤({ S with vars:=l }:CSt).scope:=hs1;obtain ⟨p,c,rfl,hcap,hat⟩:=Zme (l:=l) h.ov;refine Zj (Zj (Xe [3,3,3,0,3,3,3,3,3,3,0,3,3,3,0,3,3,3,3,0,3,3,3,0,3,3] [true,true,true,true,true,true,true,true,true,true,true,true,true,true,true,true,true,true,true,true,true,true,true,true,true,true] [0,1,3,7,15,31,63,127,255,511,1023,127,2175,6271,14463,30847,63615,131071,262143,524287,127,1048703,3145855,7340159,16777215,33554431] mix (by kernel_rfl) ?_));have g:=gtd g;have gl1:=gl1.trans (GT.of_g (G.drew _));have h:=h.grow (G.drew _);refine Zq O (Ql O (Yj Yw O (Yq Yy O (h.B.at_ O) (Xla Yp O (Yse O O (Zq O (Zi O O O (fun _=>Zl (Zc O)) (Zi O O O (fun _=>Jo (Zk O id)) (Zi O O O (fun _=>Zn Yw (Zk O id)) (Ye O O O (Zt Yy (Zk O id) (fun _=>h.B.at_ O)) (Zi O O O (fun _=>Zl (Zc O)) (Zi O O O (fun _=>Jo (Zk O id)) (Zi O O O (fun _=>Zn Yw (Zk O id)) (Ye O O O (Zt Yy (Zk O id) (fun _=>h.B.at_ O)) (Zi O O O (fun _=>Vha Yp (Zk O id)) (?_))))))))))))))))
 refine Zi O O O (fun _=>Jja (Zk O id) Xg (fun _=>by omega)) (Zi O O O (fun _=>Yz Yp (Zk O id) (Zk O id) (fun h6=>by have h6:=h6.2;simp only [decide_eq_true_eq] at h6;omega) (fun h6=>(hat 0 (by have h6:=h6.2;simp only [decide_eq_true_eq] at h6;omega)).1)) (Zi O O O (fun _=>Zn Js (Zk O id)) (Ye O O O (Zt Yd (Zk O id) (fun h6=>by have hl0:0<l.length:=(by have h6:=h6.2;simp only [decide_eq_true_eq] at h6;omega);have e:((l.length:Int)-1).toNat=l.length-1:=(by omega);rw [e];exact (hat (l.length-1) (by omega)).2.one (i:=5) (by rw [← Jqg hl0];rfl))) (Zi O O O (fun _=>Zl (Zc O)) (Zi O O O (fun _=>Jo (Zk O id)) (Zi O O O (fun _=>Zn Zca (Zk O id)) (Ye O O O (Zt Yd (Zk O id) (fun _=>h.B.at_ O)) (Zi O O O (fun _=>Zla (Zk O id) (Zk O id)) (Zo O (fun _=>Zz (Zc O) (Zk O id)) (Ze (kq (Wm O (fun h1=>?_) (fun h1=>?_)))))))))))));obtain ⟨hl0,hdl⟩:=Wpf h1;refine Ya (kq (Yv (Xe [3,3,3,3,0,3,3,3,0,3,3,3,3,3,2] [true,true,true,true,true,true,true,true,true,true,true,true,true,true,true] [0,0,2,6,14,0,32,96,224,480,992,2046,4095,8191,16383] mix (by kernel_rfl) ?_)));have g:=gtd g;have gl1:=gl1.trans (GT.of_g (G.drew _));have h:=h.grow (G.drew _);refine Zq O (Zq O (Ql O (Yj Yw O (Yq Yy O (h.B.at_ O) (Zq O (Ql O (Yj Yw O (Yq Yy O (h.B.at_ O) (Xla Yp O (Zo O (fun _=>Jja (Zc O) Xg (fun _=>by omega)) (Zo O (fun _=>Yqe Yp (Zc O) (Zc O) (fun _=>by omega)) (Ql O (Yj Yw O (Xi O Vm (Zc O) (Zc O) O O h.B O O ?_))))))))))))));intro wA hgA hzA BA;have e:((l.length:Int)-1).toNat=l.dropLast.length:=by rw [List.length_dropLast];omega
 rw [e] at BA;have g:=Wu g hgA h.B rfl h.hb;have gl1:=Wu gl1 hgA h.B rfl h.hb;have h:=h.setv (S':={ S with vars:=l.dropLast }) (Xnc _ _) (Qwf h.ov) hgA BA rfl;refine SK [0] ?_;refine Ze (fun a ha=>?_);exact ⟨l.dropLast,ha,⟨⟨h.chk,hd.trans hdl,by simp;omega⟩,gl1⟩,by simp;omega⟩;have hdl:=Wqf h1;refine AU ?_;refine Xi O Va (Zc O) (Zc O) O O h.B O O ?_;intro wC hgC hzC BC;have e:(S.scope:Int)-1=((S.scope-1:Nat):Int):=by omega
 rw [e] at BC;have g:=Wu g hgC h.B rfl h.hb;have h:=h.set (S':=shutS S) hgC (by unfold shutS;rw [hd,hdl];exact BC) (by show dropV _ _=_;rw [hd,hdl]) rfl;refine Ze (Qj O ?_);exact ⟨rfl,h.chk,g⟩
theorem Qze{l:List Vr}{k:Nat}(h:k<l.length)(s:List UInt8):Jeb (l.take (k+1)) s=bif decide (l[k].name=s) then some l[k] else Jeb (l.take k) s:=by
 unfold Jeb;rw [List.take_succ_eq_append_getElem h,List.reverse_append,List.reverse_singleton,List.singleton_append,List.find?_cons];cases decide (l[k].name=s) <;> rfl
theorem Juf{l:List Vr}{k:Nat}(h:k<l.length)(p:Vr→Bool):(l.take (k+1)).any p=((l.take k).any p || p l[k]):=by
 rw [List.take_succ_eq_append_getElem h,List.any_append];simp
theorem Vda{a e:Int}{S:CSt}(he:e≠0)(p q:Bool):failU (!(p || q)) a e S=(bif q then failS a e (failU (!p) a e S) else failU (!p) a e S):=by
 cases p <;> cases q <;> try rfl
 show failS a e S=failS a e (failS a e S);by_cases h:S.ee=0;have:failS a e S = { S with ea:=a,ee:=e }:=by unfold failS;rw [Ywh h];rfl
 rw [this];unfold failS;rw [Yvh he];rfl;have:failS a e S=S:=by unfold failS;rw [Yvh h];rfl
 rw [this,this]
theorem Jvf{α:Type}{l xs:List α}{m i:Nat}(h:l.take m=xs)(hi:i<m):l[i]? = xs[i]?:=by
 rw [← h,List.getElem?_take,if_pos hi]
theorem Vog{α:Type}{l:List α}{o:Nat}(h:o<l.length)(v:α):l.set o v=l.take o++[v]++l.drop (o+[v].length):=by
 rw [List.set_eq_take_append_cons_drop,if_pos h];simp
theorem Zte{w:World}{b b':Nat}{e e':TypeId}{l l':List Value}(h:Blk w b e l)(h':Blk w b' e' l')(he:Nat.beq e e'=false):b≠b':=fun q=>by
 subst q;unfold Blk at h h';rw [h] at h';injection h' with h';injection h' with _ h';subst h';simp at he
structure FSh (F:Nd):Prop where
  k6:∀ d∈F.kids,d.kind=6→1≤d.kids.length
  k4:∀ d∈F.kids,d.kind=4→2≤d.kids.length
  kp:∀ d∈F.kids,d.kind=4→∀ f∈(Zb d 0).kids,1≤f.kids.length
theorem Vya{kd:Int}{s:List UInt8}:∀ (l:List Nd) (k:Nat),0≤(findK kd s l k).2→(findK kd s l k).1∈l∧(findK kd s l k).1.kind=kd
 | [],k,h=>absurd h (show ¬ (0:Int)≤-1 by decide)
 | d::l,k,h=>by
  rw [findK] at h ⊢;cases h1:decide (d.kind=kd);rw [h1,cond_false] at h;have:=Vya l k h;exact ⟨List.mem_cons_of_mem _ this.1,this.2⟩;rw [h1,cond_true] at h;rw [cond_true];cases h2:decide (d.text=s);rw [h2,cond_false] at h;have:=Vya l (k+1) h;exact ⟨List.mem_cons_of_mem _ this.1,this.2⟩;exact ⟨List.mem_cons_self,of_decide_eq_true h1⟩
theorem FSh.l6{F:Nd}(H:FSh F){s:List UInt8}(h:0≤(findD F 6 s).2):0<(findD F 6 s).1.kids.length:=H.k6 _ (Vya _ _ h).1 (Vya _ _ h).2
theorem FSh.l4{F:Nd}(H:FSh F){s:List UInt8}(h:0≤(findD F 4 s).2):2≤(findD F 4 s).1.kids.length:=H.k4 _ (Vya _ _ h).1 (Vya _ _ h).2
theorem FSh.lp{F:Nd}(H:FSh F){s:List UInt8}(h:0≤(findD F 4 s).2):∀ f∈(Zb (findD F 4 s).1 0).kids,1≤f.kids.length:=H.kp _ (Vya _ _ h).1 (Vya _ _ h).2
def vrP(S:CSt)(name:List UInt8)(v:Vr):Bool:=decide (v.scope=S.scope)&&decide (v.name=name)
theorem Vea{F:Nd}{n0 b:Nat}{S:CSt}{w:World}{N:Nat}(name:List UInt8)(y:Ty)(a:Int)(h:Chk F n0 b S w)(hb:Bd S N)(hN:N≤1000000):Ret PP Web #[.pointer (some ⟨b,0,none⟩),Str name,tyV y,.int .i64 a] w fun r w'=>r = .int .i64 (declN S:Nat)∧Chk F n0 b (declS name y a S) w'∧GT mutR n0 w w':=by
 have hlt:=h.lt;have hvl:=hb.vl;have hnl:=hb.nl;have hlv:=hb.lv;have hdn:=Wre hb;have g:=GT.refl mutR n0 w;refine WK 92 [0,1,2,3] Ycb ?_;refine BM fun _ w6 ga _ g E=>?_;have h:=Ui h;refine Yo O (Ze (kq (Zj (Zj (Zm (Yo O (Ze (kq (Yv (Zfa (fun (i:Nat) u1=>(i≤S.vars.length∧Chk F n0 b (failU (!(S.vars.take i).any (vrP S name)) a 6 S) u1)∧GT mutR n0 w6 u1) [(0,True,_),(1,True,_),(3,True,_),(6,True,_),(8,True,_)] (fun (i:Nat)=>[(9,True,.int .i64 i)]) (fun (i:Nat)=>S.vars.length-i) (0) ⟨⟨Nat.zero_le _,h⟩,GT.refl _ _ _⟩ (Za O (Za O (Za O (Za O (Za O (Za O (Zp _))))))) ?_))))))))));rintro i u1 ⟨hI1,gl1⟩;have g:=g.trans gl1;replace E:=E.gt gl1 rfl;obtain ⟨hi,hC⟩:=hI1;obtain ⟨T,hT⟩:∃ T,T=failU (!(S.vars.take i).any (vrP S name)) a 6 S:=⟨_,rfl⟩;rw [← hT] at hC;obtain ⟨q1,q2,q3,q4,q5,_⟩:=Upa (!(S.vars.take i).any (vrP S name)) a 6 S;rw [← hT] at q1 q2 q3 q4 q5;have hC0:=hC;obtain ⟨fv,sv,sn,h⟩:=hC;obtain ⟨pv,cv,rfl,hcap,hat⟩:=Zme h.ov;have q6:T.vars.length≤N:=by rw [q1];exact hvl
 refine Zj (Zj (Zm (Zq O (Zq O (Ql O (Yj Yw O (Yq Yy O (h.B.at_ O) (Xla Yp O (Xka O O (Ze (kq (Wm O (fun h1=>?_) (fun h1=>?_)))))))))))));replace h1:i<T.vars.length:=by simp only [decide_eq_true_eq] at h1;omega
 have hiS:i<S.vars.length:=by rw [← q1];exact h1
 have hst:=Juf hiS (vrP S name);have hvi:T.vars[i]=S.vars[i]:=by simp only [q1]
 have hp:vrP S name S.vars[i]=(decide ((T.vars[i].scope:Int)=(T.scope:Nat))&&decide (T.vars[i].name=name)):=by rw [hvi,q2,vrP];congr 1;rw [decide_eq_decide];omega
 refine Ya (kq (Zj (Yv (Zj (Xe [3,3,3,0,3,3,3,0,3,3,3,0,3,3,3,3,3,0,3,3,3,0,3,3,3] [true,true,true,true,true,true,true,true,true,true,true,true,true,true,true,true,true,true,true,true,true,true,true,true,true] [0,1,3,7,0,31,63,127,0,256,768,1792,4095,8191,16383,32767,65535,131071,16383,524287,1048575,2097151,16383,8388607,16777215] mix (by kernel_rfl) ?_)))));have gl1:=gl1.trans (GT.of_g (G.drew _));replace E:=E.dr;have h:=h.grow (G.drew _);refine Zq O (Ql O (Yj Yw O (Yq Yy O (h.B.at_ O) (Zq O (Zo O (fun _=>Yz Yp (Zc O) (Zc O) (fun _=>by omega) (fun _=>(hat i h1).1)) (Yj Js O (Yq Yd O (((hat i h1).2.grow (G.drew _)).one (i:=5) O) (Zq O (Ql O (Yj Zca O (Yq Yd O (h.B.at_ O) (Zwa O O (Zq O (Zi O O O (fun _=>Zl (Zc O)) (Zi O O O (fun _=>Jo (Zk O id)) (?_))))))))))))))));refine Zi O O O (fun _=>Zn Yw (Zk O id)) (Ye O O O (Zt Yy (Zk O id) (fun _=>h.B.at_ O)) (Zi O O O (fun _=>Zl (Zc O)) (Zi O O O (fun _=>Yz Yp (Zk O id) (Zk O id) (fun _=>by omega) (fun _=>(hat i h1).1)) (Zi O O O (fun _=>Zn Jr (Zk O id)) (Ye O O O (Zt Yg (Zk O id) (fun _=>((hat i h1).2.grow (G.drew _)).one (i:=0) O)) (Zi O O O (fun _=>Zl (Zc O)) (Zi O O O (fun _=>Yxc (Zk O id) (Zk O id)) (Zo O (fun _=>Zz (Zc O) (Zk O id)) (Ze (kq (Wm O (fun h2=>?_) (fun h2=>?_))))))))))));rw [h2] at hp;refine AU ?_;refine CL (Wh a 6 h.chk) ?_;rintro v47 w47 ⟨rfl,hC,g47⟩;refine ⟨nw1,?_⟩;have gl1:=gl1.trans g47;replace E:=E.gt g47 rfl;refine AU ?_;refine SK [9,0,1,3,6,8] ?_;refine Ze (fun a ha=>?_);exact ⟨i+1,ha,⟨⟨hiS,by rw [hst,Vda (by decide),hp,← hT];exact hC⟩,gl1⟩,by omega⟩;rw [h2] at hp
 refine Ya (kq (Zm (Zq O (Qqa O O (by omega) (Yo O (Vc [(9,_,_),(0,_,_),(1,_,_),(3,_,_),(6,_,_),(8,_,_)] (Za O (Za O (Za O (Za O (Za O (Za O (Zp _))))))) (Ze (fun a ha=>?_))))))));exact ⟨i+1,ha,⟨⟨hiS,by rw [hst,Vda (by decide),hp,← hT];exact h.chk⟩,gl1⟩,by omega⟩;replace h1:i=S.vars.length:=by rw [← q1];simp only [decide_eq_false_iff_not] at h1;rw [← q1] at hi;omega
 subst h1;rw [List.take_length] at hT;have hlT:T.level<T.next.length:=by rw [q3,q4];exact hlv
 have hnT:T.next.length≤N+1:=by rw [q4];exact hnl
 obtain ⟨gs,cs,ls,rfl,hgs,hBs,hms,hls,htk,hre⟩:=Uvd h.on (by omega)
 have hel:ls[0+T.level*1]? = some (.int .i64 (declN S:Nat)):=by
  rw [Jvf htk (by omega),show 0+T.level*1=T.level by omega,List.getElem?_map,q4,q3,List.getElem?_eq_getElem hlv,declN,List.getD_eq_getElem?_getD,List.getElem?_eq_getElem hlv];rfl
 refine Qs O (kq (Zj (Xe [3,3,3,0,3,3,3,0,3,0,3] [true,true,true,true,true,true,true,true,true,true,true] [0,1,3,7,0,16,48,112,255,511,1023] mix (by kernel_rfl) ?_)));have g:=gtd g;replace E:=E.dr;have h:=h.grow (G.drew _);have hBs:=hBs.grow (G.drew _);refine Zq O (Ql O (Yj Wt O (Yq Jva O (h.B.at_ O) (Zq O (Ql O (Yj Vz O (Yq Yd O (h.B.at_ O) (Zfb Xda O O (by omega) (Yq Yd O (hBs.at_ hel) (Yo O (Ze (kq (Zj (Xe [3,3,3,0,3,3,3,0,3,0,3,3,2] [true,true,true,true,true,true,true,true,true,true,true,true,true] [0,1,3,7,0,16,48,112,255,511,1023,2047,4095] mix (by kernel_rfl) ?_))))))))))))));have g:=gtd g;replace E:=E.dr;have h:=h.grow (G.drew _);have hBs:=hBs.grow (G.drew _);refine Zq O (Ql O (Yj Wt O (Yq Jva O (h.B.at_ O) (Zq O (Ql O (Yj Vz O (Yq Yd O (h.B.at_ O) (Zfb Xda O O (by omega) (Yq Yd O (hBs.at_ hel) (Qqa O O (by omega) (Zfb Xda O O (by omega) (Xi O Va (Zc O) (Zc O) O O hBs (Nat.ble_eq.mpr (by have:=hls;have:=hms;simp;omega)) O ?_))))))))))));intro wA hgA hzA BA;have g:=Wu g hgA hBs rfl hgs;replace E:=E.keepT hgA hBs rfl;replace BA:Blk wA gs Yib (ls.set (0+T.level*1) (Value.int .i64 ((declN S:Nat)+1))):=by rw [Vog (by omega)];exact BA
 have hO:=hre _ _ BA (by rw [List.length_set];exact hls)
 have e5:(ls.set (0+T.level*1) (Value.int .i64 ((declN S:Nat)+1))).take (T.next.length*1)=(T.next.set T.level (declN S+1)).map fun (k:Nat)=>Value.int .i64 (k:Int):=by
  rw [take_set _ _ _ _ (by omega),htk,List.map_set,show 0+T.level*1=T.level by omega];rfl
 have h:=h.elt (S':={ T with next:=T.next.set T.level (declN S+1) }) hgA (by
  show wA.ownsRow n0 Yib 1 _ (T.next.set T.level (declN S+1)).length _;rw [List.length_set];exact e5▸hO) rfl
 have q7:({ T with next:=T.next.set T.level (declN S+1) }:CSt).vars.length≤N:=q6;refine Ze (kq (Zj (Xe [3,3,3,3,0,3,0,3,3,3,3,0,3,3,3,0,3,1,2,3,3,2] [true,true,true,true,true,true,true,true,true,true,true,true,true,true,true,true,true,true,true,true,true,true] [0,0,2,6,14,0,0,0,0,256,768,1792,0,4096,12288,28672,65504,131040,262142,524287,1048575,2097151] mix (by kernel_rfl) ?_)));have g:=gtd g;replace E:=E.dr;have h:=h.grow (G.drew _);refine AU ?_;refine Zba Qp Xia (pqc O (pqc O (pqc O (pqc O (pqc O pq0))))) O O (CN fun _ _ N87 _ g E=>?_);have h:=h.grow (N87.g);refine Jc O Yp Qp O (by decide) (Zc O) h.ov (Zc O) O N87.blk.row O (by simp only [maxLen];omega) (by omega) (by have:=g.size;omega) ?_;intro pw cw w88 hov hg88 hat88;have g:=Qjf g h.ov rfl hg88;have hl1:(T.vars++[(⟨name,y,declN S,T.level,T.scope⟩:Vr)]).length=T.vars.length+1:=by simp
 have hf1:(T.vars++[(⟨name,y,declN S,T.level,T.scope⟩:Vr)]).flatMap vrCells=T.vars.flatMap vrCells++vrCells (⟨name,y,declN S,T.level,T.scope⟩:Vr):=by simp
 refine AU ?_;refine Xi O Vm (Zc O) (Zc O) O O (h.rowv hg88).1 O O ?_;intro wC hgC hzC BC;have g:=Wu g hgC (h.rowv hg88).1 rfl h.hb
 have h:=h.setv (S':={ T with next:=T.next.set T.level (declN S+1),vars:=T.vars++[(⟨name,y,declN S,T.level,T.scope⟩:Vr)] }) hg88 (by
  show w88.ownsRow n0 Xp 6 (.slice pw (T.vars.length+1) cw) (T.vars++[(⟨name,y,declN S,T.level,T.scope⟩:Vr)]).length ((T.vars++[(⟨name,y,declN S,T.level,T.scope⟩:Vr)]).flatMap vrCells);rw [hl1,hf1];exact hov) hgC BC rfl
 refine RTN ?_;refine ⟨rfl,?_,g⟩
 have e:declS name y a S = { T with next:=T.next.set T.level (declN S+1),vars:=T.vars++[(⟨name,y,declN S,T.level,T.scope⟩:Vr)] }:=by
  unfold declS;rw [show failU (!dupV S name) a 6 S=T from hT.symm];dsimp only;rw [q1,q2,q3,q4]
 rw [e];exact h.chk
theorem Xoc{F:Nd}{n0 b:Nat}{S:CSt}{w:World}{N:Nat}(H:FSh F)(t:Nd)(p:Option Addr)(c:Nat)(h:Chk F n0 b S w)(hb:Bd S N)(hN:N≤1000000):Ret PP Vzb #[.pointer (some ⟨b,0,none⟩),ndV t (.slice p t.kids.length c)] w fun r w'=>r = .tuple #[ndV (lookR F S t).1 (.slice none 0 0),.bool (lookR F S t).2]∧G w w':=by
 obtain ⟨fv,sv,sn,h⟩:=h;have hlt:=h.lt;have hvl:=hb.vl;have hnl:=hb.nl;have hlv:=hb.lv;obtain ⟨pv,cv,rfl,hcap,hat⟩:=Zme h.ov;have g:=G.refl w;refine Jx (m:=112) Ywb O O [(0,True,_),(1,True,_)] (Za O (Za O (Zp _))) ?_;refine Zj (Zm (BM fun _ _ _ _ g E=>?_));refine AN fun _ _ _ l4 g E=>?_;refine Yo O (Ze (kq (Zj (Zm (Vf Zh O O E.g1.row (CL (Vn t _ _ _) ?_))))));rintro _ _ ⟨rfl,ga⟩;refine RC fun g E=>?_;refine AN fun b6 _ _ l6 g E=>?_;refine AS fun wS1 _ _ g E=>?_;refine Ze (kq (Zj (Zj (Zm (Zq O (Ql O (Yj Yw O (Yq Yy O ((h.B.grow g).at_ O) (Xla Yp O (Zo O (fun _=>Jja (Zc O) Xg (fun _=>by omega)) (Yo O (Ze (kq (Yv (Zfa (fun (j:Nat) u1=>(j≤S.vars.length∧Jeb S.vars t.text=Jeb (S.vars.take j) t.text)∧G wS1 u1) [(0,True,_),(3,True,_),(4,True,_),(6,True,_)] (fun (j:Nat)=>[(7,True,.int .i64 ((j:Int)-1))]) (fun (j:Nat)=>j) (S.vars.length) ⟨⟨Nat.le_refl _,by rw [List.take_length]⟩,G.refl _⟩ (Za O (Za O (Za O (Za O (Za O (Zp _)))))) ?_)))))))))))))));rintro j u1 ⟨hI1,gl1⟩;have g:=g.trans gl1;replace E:=E.grow gl1;obtain ⟨hj,hF⟩:=hI1;refine Zj (Zj (Zm (Zq O (Yte O O (Ze (kq (Wm O (fun h1=>?_) (fun h1=>?_))))))));replace h1:1≤j:=by simp only [decide_eq_true_eq] at h1;omega
 obtain ⟨k,rfl⟩:∃ k,j=k+1:=⟨j-1,by omega⟩;have e:(((k+1:Nat):Int)-1).toNat=k:=by omega
 have hk:k<S.vars.length:=hj;have hvk:=hb.vs _ (List.getElem_mem hk);rw [Qze hk] at hF;refine Ya (kq (Zj (Yv (Zj (Zm (Zq O (Ql O (Yj Yw O (Yq Yy O ((h.B.grow g).at_ O) (Zq O (Zo O (fun _=>Yz Yp (Zc O) (Zc O) (fun _=>by omega) (fun _=>(hat k hk).1)) (Vf Yya O O (by rw [e];exact (hat k hk).2.grow g) (AN fun _ _ ga _ g E=>?_)))))))))))));have l8_gl1:=ga.ge gl1;have gl1:=gl1.trans (ga.g);refine AS fun _ ga _ g E=>?_;first|replace gl1:=Yb gl1 ga (by omega)|clear gl1|skip
 refine Ze (kq (Zj (Zm (Yj Jr O (Yq Yg O (E.g0.at_ O) (Yj Yn O (Yq Yg O (E.g3.at_ O) (Qsd O O (Ze (kq (Wm O (fun h2=>?_) (fun h2=>?_))))))))))));rw [h2,cond_true] at hF;refine Zj (Xu (rowR (some b6)) [3,0,3,3,3,0,3,0,3,3,0,3,1,3,1,3,1,3,1] [0,1,0,4,12,28,0,64,252,0,512,0,2048,6147,14339,31231,63999,131071,262143] mix (by kernel_rfl) [0,1,2,3,4,5,6,7,8,9,10,11,12,13,14,15,16,17,18] O ?_);have g:=gdr g;have gl1:=gl1.trans (G.drew _);replace E:=E.dr;refine Zx 0 O O (fun _=>Zn Yqa (Zc O)) (Wf 1 O O (fun w1 hx=>Zt Yd (Zc O) (fun _=>(E.g0.keep hx (fun h=>E.ne 0 1 O O O (Option.some.inj h))).at_ O)) (Zx 2 O O (fun _=>Zl (Zc O)) (Zx 3 O O (fun _=>Jo (Zc O)) (Zx 4 O O (fun _=>Zn Vz (Zc O)) (Wf 5 O O (fun w1 hx=>Zt Yd (Zc O) (fun _=>((h.B.grow g).keep hx (by intro q;first|(injection q with q;omega)|cases q)).at_ O)) (Zx 6 O O (fun _=>Zn Yra (Zc O)) (Wf 7 O O (fun w1 hx=>Zt Yd (Zc O) (fun _=>(E.g0.keep hx (fun h=>E.ne 0 1 O O O (Option.some.inj h))).at_ O)) (Zx 8 O O (fun _=>Jja (Zc O) (Zc O) (fun _=>by omega)) (Zx 9 O O (fun _=>Zn Ypa (Zc O)) (Wf 10 O O (fun w1 hx=>Zy Xb (Zc O) O (fun _=>(E.g0.keep hx (fun h=>E.ne 0 1 O O O (Option.some.inj h))).row.part 1 2)) (Zx 11 O O (fun _=>Zn Qc (Zc O)) (Zv 12 O O ?_))))))))))));refine Zw (L':=[13,14,15,16,17,18]) [3,0,3,3,3,0,3,0,3,3,0,3,2,3,2,3,2,3,2] O O O ?_;refine AS fun _ hgS3 _ g E=>?_;first|replace gl1:=Yb gl1 hgS3 (by omega)|clear gl1|skip
 refine Yi (hgS3) ?_;refine Zx 13 O O (fun _=>Zn Vg (Zc O)) (Zv 14 O O ?_);refine Zw (L':=[15,16,17,18]) [3,0,3,3,3,0,3,0,3,3,0,3,2,3,2,3,2,3,2] O O O ?_;refine AS fun _ hgS4 _ g E=>?_;first|replace gl1:=Yb gl1 hgS4 (by omega)|clear gl1|skip
 refine Yi (hgS4) ?_;refine Zx 15 O O (fun _=>Zn Xca (Zc O)) (Zv 16 O O ?_);refine Zw (L':=[17,18]) [3,0,3,3,3,0,3,0,3,3,0,3,2,3,2,3,2,3,2] O O O ?_;refine AS fun _ hgS5 _ g E=>?_;first|replace gl1:=Yb gl1 hgS5 (by omega)|clear gl1|skip
 refine Yi (hgS5) ?_;refine Zx 17 O O (fun _=>Zn Wl (Zc O)) (Zv 18 O O ?_);refine Zw (L':=[]) [3,0,3,3,3,0,3,0,3,3,0,3,2,3,2,3,2,3,2] O O O ?_;refine Xi O Wi (Zc O) (Zc O) O O E.g1 O O ?_;intro wS6 hgS6 _ BS;replace E:=E.s1 hgS6 BS;have g:=Yb g hgS6 (by omega);first|replace gl1:=Yb gl1 hgS6 (by omega)|clear gl1|skip
 refine Yi (hgS6) ?_;refine Ula [(0,_,_),(3,_,_),(4,_,_),(6,_,_),(7,_,_)] (Za O (Za O (Za O (Za O (Za O (Zp _)))))) (Qk (kq (Zj (Zm (Vf Zh O O E.g1.row (AS fun _ ga _ g E=>?_))))));first|replace gl1:=Yb gl1 ga (by omega)|clear gl1|skip
 refine Yo O (Ze (kq (Xd (Uq (rs:=[.cell 4 26,.tmp 5]) (vs:=[_,_]) O O (Jd O Zh O (E.g2.row) (Qh O (Wz))) O ?_))));refine ⟨?_,g⟩;unfold lookR;rw [hF];rfl;rw [h2,cond_false] at hF;refine Ya (kq (Zm (Zq O (Zo O (fun _=>Jja (Zc O) Xg (fun _=>by omega)) (Yo O (Vc [(7,_,_),(0,_,_),(3,_,_),(4,_,_),(6,_,_)] (Za O (Za O (Za O (Za O (Za O (Zp _)))))) (Ze (fun a ha=>?_))))))));exact ⟨k,by rw [show ((k+1:Nat):Int)-1-1=(k:Int)-1 by omega] at ha;exact ha,⟨⟨by omega,hF⟩,gl1⟩,by omega⟩;replace h1:j=0:=by simp only [decide_eq_false_iff_not] at h1;omega
 subst h1;replace hF:Jeb S.vars t.text=none:=hF;refine Qs O (kq (Zj (Zj (Xu (rowR none) [3,3,3,0,3,0,1,3,3,3,1,2,3] [0,1,3,7,0,16,63,127,255,255,0,1535,4095] mix (by kernel_rfl) [0,1,2,3,4,5,6,7,8,9,10,11,12] O ?_))));have g:=gdr g;have gl1:=gl1.trans (G.drew _);replace E:=E.dr;refine Zx 0 O O (fun _=>Zl (Zc O)) (Zx 1 O O (fun _=>Jo (Zc O)) (Zx 2 O O (fun _=>Zn Wd (Zc O)) (Wf 3 O O (fun w1 hx=>Zy Zh (Zc O) O (fun _=>((h.B.grow g).keep hx (by intro q;first|(injection q with q;omega)|cases q)).row.part 0 9)) (Zx 4 O O (fun _=>Zn Yn (Zc O)) (Wf 5 O O (fun w1 hx=>Zt Yg (Zc O) (fun _=>(E.g2.keep hx (fun h=>nomatch h)).at_ O)) (Uua 6 10 O O ?_ ?_))))));refine Zw (L':=[7,8,9,10,11,12]) [3,3,3,0,3,0,1,3,3,3,1,2,3] rfl rfl rfl ?_;refine CL (Yoa F fv _ _ 6 t.text (h.kF.grow g) h.hF) ?_;rintro v60 w60 ⟨⟨p60,c60,rfl,hk60⟩,g60⟩;refine ⟨fun _=>g60,?_⟩;have g:=g.trans g60;have gl1:=gl1.trans (g60);replace E:=E.grow g60;refine Yi ((g60).only _) ?_;refine Zx 7 O O (fun _=>Zl (Zc O)) (Zx 8 O O (fun _=>Xs (Zc O) O) (Zx 9 O O (fun _=>Xs (Zc O) O) (Zv 10 O O ?_)));refine Zw (L':=[11,12]) [3,3,3,0,3,0,1,3,3,3,1,2,3] O O O ?_;refine AN fun _ _ N9 l9 g E=>?_;have l9_gl1:=N9.ge gl1;have gl1:=gl1.trans (N9.g);have hk60:=hk60.grow (N9.g);refine Yi ((N9.g).only _) ?_;refine Zv 11 O O ?_;refine Yf (L':=[12]) [3,3,3,0,3,0,1,3,3,3,1,2,3] O O O O ?_;refine AS fun _ ga _ g E=>?_;first|replace gl1:=Yb gl1 ga (by omega)|clear gl1|skip
 have hk60:=Ud hk60;refine Yx ?_;refine Zx 12 O O (fun _=>Yt (Zc O)) (Ula [(0,_,_),(3,_,_),(4,_,_),(6,_,_),(9,_,_),(10,_,_),(53,_,_),(54,_,_),(55,_,_),(56,_,_),(57,_,_),(58,_,_),(59,_,_),(60,_,_),(61,_,_),(62,_,_)] (Za O (Za O (Za O (Za O (Za O (Za O (Za O (Za O (Za O (Za O (Za O (Za O (Za O (Za O (Za O (Za O (Zp _))))))))))))))))) (Qk (kq (Zj (Zm (Zq O (Yte O O (Ze (kq (Wm O (fun h3=>?_) (fun h3=>?_)))))))))));replace h3:0≤(findD F 6 t.text).2:=by simp only [decide_eq_true_eq] at h3;omega
 have hl6:=H.l6 h3;refine Zj (Zm (Zq O (Yj Qc O (AS fun _ ga _ g E=>?_))));first|replace gl1:=Yb gl1 ga (by omega)|clear gl1|skip
 have hk60:=Ud hk60;refine Yj Vg O (AS fun _ ga _ g E=>?_);first|replace gl1:=Yb gl1 ga (by omega)|clear gl1|skip
 have hk60:=Ud hk60;refine Ze (kq (Zj (Zm (?_))));obtain ⟨e0,p1,c1,hcell,hkid⟩:=Yk hk60 (i:=0) hl6;refine Yj Zg O (Yq Zf O (E.g0.at_ O) (Jm Zd O O (by omega) e0 (Vf Zh O O hcell (Vh O (Yl Ynb Vi (aqc O aq0) O) (Vbb (Zb (findD F 6 t.text).1 0) _ _ _) (fun w73 g73=>?_)))));have g:=g.trans g73;replace E:=E.grow g73;refine Zq O (Vvc O O (Vvc O O (Yj Wl O (Xi O Wi (Zc O) (Zc O) O O E.g1 O O ?_))));intro wS11 hgS11 _ BS;replace E:=E.s1 hgS11 BS;have g:=Yb g hgS11 (by omega);first|replace gl1:=Yb gl1 hgS11 (by omega)|clear gl1|skip
 refine Ze (kq (Zj (Zm (Vf Zh O O E.g1.row (AS fun _ ga _ g E=>?_)))));first|replace gl1:=Yb gl1 ga (by omega)|clear gl1|skip
 refine Yo O (Ze (kq (Xd (Uq (rs:=[.cell 4 26,.tmp 5]) (vs:=[_,_]) O O (Jd O Zh O (E.g2.row) (Qh O (Wz))) O ?_))));refine ⟨?_,g⟩;unfold lookR;rw [hF];dsimp only;rw [Ywh h3];rfl;replace h3:¬ 0≤(findD F 6 t.text).2:=by simp only [decide_eq_false_iff_not] at h3;omega
 refine Ya (kq (Zj (Zj (Xu (rowR none) [3,3,3,0,3,0,1,3,3,3,1,2,3] [0,1,3,7,0,16,63,127,255,255,0,1535,4095] mix (by kernel_rfl) [0,1,2,3,4,5,6,7,8,9,10,11,12] O ?_))));have g:=gdr g;have gl1:=gl1.trans (G.drew _);replace E:=E.dr;refine Zx 0 O O (fun _=>Zl (Zc O)) (Zx 1 O O (fun _=>Jo (Zc O)) (Zx 2 O O (fun _=>Zn Wd (Zc O)) (Wf 3 O O (fun w1 hx=>Zy Zh (Zc O) O (fun _=>((h.B.grow g).keep hx (by intro q;first|(injection q with q;omega)|cases q)).row.part 0 9)) (Zx 4 O O (fun _=>Zn Yn (Zc O)) (Wf 5 O O (fun w1 hx=>Zt Yg (Zc O) (fun _=>(E.g3.keep hx (fun h=>nomatch h)).at_ O)) (Uua 6 10 O O ?_ ?_))))));refine Zw (L':=[7,8,9,10,11,12]) [3,3,3,0,3,0,1,3,3,3,1,2,3] rfl rfl rfl ?_;refine CL (Yoa F fv _ _ 4 t.text (h.kF.grow g) h.hF) ?_;rintro v85 w85 ⟨⟨p85,c85,rfl,hk85⟩,g85⟩;refine ⟨fun _=>g85,?_⟩;have g:=g.trans g85;have gl1:=gl1.trans (g85);replace E:=E.grow g85;refine Yi ((g85).only _) ?_;refine Zx 7 O O (fun _=>Zl (Zc O)) (Zx 8 O O (fun _=>Xs (Zc O) O) (Zx 9 O O (fun _=>Xs (Zc O) O) (Zv 10 O O ?_)));refine Zw (L':=[11,12]) [3,3,3,0,3,0,1,3,3,3,1,2,3] O O O ?_;refine AN fun _ _ N11 l11 g E=>?_;have l11_gl1:=N11.ge gl1;have gl1:=gl1.trans (N11.g);have hk85:=hk85.grow (N11.g);refine Yi ((N11.g).only _) ?_;refine Zv 11 O O ?_;refine Yf (L':=[12]) [3,3,3,0,3,0,1,3,3,3,1,2,3] O O O O ?_;refine AS fun _ ga _ g E=>?_;first|replace gl1:=Yb gl1 ga (by omega)|clear gl1|skip
 have hk85:=Ud hk85;refine Yx ?_;refine Zx 12 O O (fun _=>Yt (Zc O)) (Ula [(0,_,_),(3,_,_),(4,_,_),(6,_,_),(9,_,_),(10,_,_),(11,_,_),(12,_,_),(53,_,_),(54,_,_),(55,_,_),(56,_,_),(57,_,_),(58,_,_),(59,_,_),(60,_,_),(61,_,_),(62,_,_),(63,_,_),(64,_,_),(78,_,_),(79,_,_),(80,_,_),(81,_,_),(82,_,_),(83,_,_),(84,_,_),(85,_,_),(86,_,_),(87,_,_)] (Za O (Za O (Za O (Za O (Za O (Za O (Za O (Za O (Za O (Za O (Za O (Za O (Za O (Za O (Za O (Za O (Za O (Za O (Za O (Za O (Za O (Za O (Za O (Za O (Za O (Za O (Za O (Za O (Za O (Za O (Zp _))))))))))))))))))))))))))))))) (Qk (kq (Zj (Zm (Zq O (Yte O O (Ze (kq (Wm O (fun h4=>?_) (fun h4=>?_)))))))))));replace h4:0≤(findD F 4 t.text).2:=by simp only [decide_eq_true_eq] at h4;omega
 have hl4:=H.l4 h4;refine Zj (Zm (Zq O (Yj Qc O (AS fun _ ga _ g E=>?_))));first|replace gl1:=Yb gl1 ga (by omega)|clear gl1|skip
 have hk85:=Ud hk85;refine Yj Vg O (AS fun _ ga _ g E=>?_);first|replace gl1:=Yb gl1 ga (by omega)|clear gl1|skip
 have hk85:=Ud hk85;refine Ze (kq (Zj (Zj (Zm (?_)))));obtain ⟨e0,p1,c1,hcell,hkid⟩:=Yk hk85 (i:=0) (by omega);obtain ⟨e1,p2,c2,hcell1,hkid1⟩:=Yk hk85 (i:=1) (by omega);refine Yj Zg O (Yq Zf O (E.g0.at_ O) (Jm Zd O O (by omega) e0 (Yj Zg O (Yq Zf O (hcell.one (i:=4) O) (Xla Zd O (Zwa O O (Zq O (Zi O O O (fun _=>Zn Zg (Zc O)) (Ye O O O (Zt Zf (Zk O id) (fun _=>E.g0.at_ O)) (Zi O O O (fun _=>Yz Zd (Zk O id) Xg (fun _=>by omega) (fun _=>e1)) (Zi O O O (fun _=>Zn Xm (Zk O id)) (Ye O O O (Zt Yd (Zk O id) (fun _=>hcell1.one (i:=0) O)) (Zi O O O (fun _=>Zla (Zk O id) Xg) (Zo O (fun _=>Zz (Zc O) (Zk O id)) (Ze (kq (?_)))))))))))))))));refine Wm O (fun h5=>?_) (fun h5=>?_);(try simp only [bsimp] at h5);refine Zm (Zba Wn Ve (pqc O pq0) O O (Yj Wl O (Xi O Wi (Zc O) (Zc O) O O E.g2 O O ?_)));intro wS16 hgS16 _ BS;replace E:=E.s2 hgS16 BS;have g:=Yb g hgS16 (by omega);first|replace gl1:=Yb gl1 hgS16 (by omega)|clear gl1|skip
 refine Ze (kq (Zj (Zm (Vf Zh O O E.g2.row (AS fun _ ga _ g E=>?_)))));first|replace gl1:=Yb gl1 ga (by omega)|clear gl1|skip
 refine Yo O (Ze (kq (Xd (Uq (rs:=[.cell 4 26,.tmp 5]) (vs:=[_,_]) O O (Jd O Zh O (E.g3.row) (Qh O (Wz))) O ?_))));refine ⟨?_,g⟩;unfold lookR;rw [hF];dsimp only;rw [Yvh h3,Ywh h4,Vbc,h5];rfl;refine Ya (kq (Zj (Zm (Vf Zh O O E.g2.row (AS fun _ ga _ g E=>?_)))));first|replace gl1:=Yb gl1 ga (by omega)|clear gl1|skip
 refine Yo O (Ze (kq (Xd (Uq (rs:=[.cell 4 26,.tmp 5]) (vs:=[_,_]) O O (Jd O Zh O (E.g3.row) (Qh O (Wz))) O ?_))));refine ⟨?_,g⟩;unfold lookR;rw [hF];dsimp only;rw [Yvh h3,Ywh h4,Vbc,h5];rfl;replace h4:¬ 0≤(findD F 4 t.text).2:=by simp only [decide_eq_false_iff_not] at h4;omega
 refine Ya (kq (Zj (Zm (Vf Zh O O E.g2.row (AS fun _ ga _ g E=>?_)))));first|replace gl1:=Yb gl1 ga (by omega)|clear gl1|skip
 refine Yo O (Ze (kq (Xd (Uq (rs:=[.cell 4 26,.tmp 5]) (vs:=[_,_]) O O (Jd O Zh O (E.g3.row) (Qh O (Wz))) O ?_))));refine ⟨?_,g⟩;unfold lookR;rw [hF];dsimp only;rw [Yvh h3,Yvh h4];rfl;refine Zw (L':=[6,7,8,9,11,12]) [3,3,3,0,3,0,1,3,3,3,1,2,3] rfl rfl rfl ?_;refine AN fun _ _ N11 l11 g E=>?_;have l11_gl1:=N11.ge gl1;have gl1:=gl1.trans (N11.g);refine Yi ((N11.g).only _) ?_;refine Zv 6 O O ?_;refine Zw (L':=[7,8,9,11,12]) [3,3,3,0,3,0,1,3,3,3,1,2,3] O O O ?_;refine CL (Yoa F fv _ _ 4 t.text (h.kF.grow g) h.hF) ?_;rintro v85 w85 ⟨⟨p85,c85,rfl,hk85⟩,g85⟩;refine ⟨fun _=>g85,?_⟩;have g:=g.trans g85;have gl1:=gl1.trans (g85);replace E:=E.grow g85;refine Yi ((g85).only _) ?_;refine Zx 7 O O (fun _=>Zl (Zc O)) (Zx 8 O O (fun _=>Xs (Zc O) O) (Zx 9 O O (fun _=>Xs (Zc O) O) (Zv 11 O O ?_)));refine Yf (L':=[12]) [3,3,3,0,3,0,1,3,3,3,1,2,3] O O O O ?_;refine AS fun _ ga _ g E=>?_;first|replace gl1:=Yb gl1 ga (by omega)|clear gl1|skip
 have hk85:=Ud hk85;refine Yx ?_;refine Zx 12 O O (fun _=>Yt (Zc O)) (Ula [(0,_,_),(3,_,_),(4,_,_),(6,_,_),(9,_,_),(10,_,_),(11,_,_),(12,_,_),(53,_,_),(54,_,_),(55,_,_),(56,_,_),(57,_,_),(58,_,_),(59,_,_),(60,_,_),(61,_,_),(62,_,_),(63,_,_),(64,_,_),(78,_,_),(79,_,_),(80,_,_),(81,_,_),(82,_,_),(83,_,_),(84,_,_),(85,_,_),(86,_,_),(87,_,_)] (Za O (Za O (Za O (Za O (Za O (Za O (Za O (Za O (Za O (Za O (Za O (Za O (Za O (Za O (Za O (Za O (Za O (Za O (Za O (Za O (Za O (Za O (Za O (Za O (Za O (Za O (Za O (Za O (Za O (Za O (Zp _))))))))))))))))))))))))))))))) (Qk (kq (Zj (Zm (Zq O (Yte O O (Ze (kq (Wm O (fun h4=>?_) (fun h4=>?_)))))))))));replace h4:0≤(findD F 4 t.text).2:=by simp only [decide_eq_true_eq] at h4;omega
 have hl4:=H.l4 h4;refine Zj (Zm (Zq O (Yj Qc O (AS fun _ ga _ g E=>?_))));first|replace gl1:=Yb gl1 ga (by omega)|clear gl1|skip
 have hk85:=Ud hk85;refine Yj Vg O (AS fun _ ga _ g E=>?_);first|replace gl1:=Yb gl1 ga (by omega)|clear gl1|skip
 have hk85:=Ud hk85;refine Ze (kq (Zj (Zj (Zm (?_)))));obtain ⟨e0,p1,c1,hcell,hkid⟩:=Yk hk85 (i:=0) (by omega);obtain ⟨e1,p2,c2,hcell1,hkid1⟩:=Yk hk85 (i:=1) (by omega);refine Yj Zg O (Yq Zf O (E.g0.at_ O) (Jm Zd O O (by omega) e0 (Yj Zg O (Yq Zf O (hcell.one (i:=4) O) (Xla Zd O (Zwa O O (Zq O (Zi O O O (fun _=>Zn Zg (Zc O)) (Ye O O O (Zt Zf (Zk O id) (fun _=>E.g0.at_ O)) (Zi O O O (fun _=>Yz Zd (Zk O id) Xg (fun _=>by omega) (fun _=>e1)) (Zi O O O (fun _=>Zn Xm (Zk O id)) (Ye O O O (Zt Yd (Zk O id) (fun _=>hcell1.one (i:=0) O)) (Zi O O O (fun _=>Zla (Zk O id) Xg) (Zo O (fun _=>Zz (Zc O) (Zk O id)) (Ze (kq (?_)))))))))))))))));refine Wm O (fun h5=>?_) (fun h5=>?_);(try simp only [bsimp] at h5);refine Zm (Zba Wn Ve (pqc O pq0) O O (Yj Wl O (Xi O Wi (Zc O) (Zc O) O O E.g2 O O ?_)));intro wS16 hgS16 _ BS;replace E:=E.s2 hgS16 BS;have g:=Yb g hgS16 (by omega);first|replace gl1:=Yb gl1 hgS16 (by omega)|clear gl1|skip
 refine Ze (kq (Zj (Zm (Vf Zh O O E.g2.row (AS fun _ ga _ g E=>?_)))));first|replace gl1:=Yb gl1 ga (by omega)|clear gl1|skip
 refine Yo O (Ze (kq (Xd (Uq (rs:=[.cell 4 26,.tmp 5]) (vs:=[_,_]) O O (Jd O Zh O (E.g3.row) (Qh O (Wz))) O ?_))));refine ⟨?_,g⟩;unfold lookR;rw [hF];dsimp only;rw [Yvh h3,Ywh h4,Vbc,h5];rfl;refine Ya (kq (Zj (Zm (Vf Zh O O E.g2.row (AS fun _ ga _ g E=>?_)))));first|replace gl1:=Yb gl1 ga (by omega)|clear gl1|skip
 refine Yo O (Ze (kq (Xd (Uq (rs:=[.cell 4 26,.tmp 5]) (vs:=[_,_]) O O (Jd O Zh O (E.g3.row) (Qh O (Wz))) O ?_))));refine ⟨?_,g⟩;unfold lookR;rw [hF];dsimp only;rw [Yvh h3,Ywh h4,Vbc,h5];rfl;replace h4:¬ 0≤(findD F 4 t.text).2:=by simp only [decide_eq_false_iff_not] at h4;omega
 refine Ya (kq (Zj (Zm (Vf Zh O O E.g2.row (AS fun _ ga _ g E=>?_)))));first|replace gl1:=Yb gl1 ga (by omega)|clear gl1|skip
 refine Yo O (Ze (kq (Xd (Uq (rs:=[.cell 4 26,.tmp 5]) (vs:=[_,_]) O O (Jd O Zh O (E.g3.row) (Qh O (Wz))) O ?_))));refine ⟨?_,g⟩;unfold lookR;rw [hF];dsimp only;rw [Yvh h3,Yvh h4];rfl;refine Zw (L':=[6,7,8,9,11,12]) [3,3,3,0,3,0,1,3,3,3,1,2,3] rfl rfl rfl ?_;refine AN fun _ _ N9 _ g E=>?_;have l9_gl1:=N9.ge gl1;have gl1:=gl1.trans (N9.g);refine Yi ((N9.g).only _) ?_;refine Zv 6 O O ?_;refine Zw (L':=[7,8,9,11,12]) [3,3,3,0,3,0,1,3,3,3,1,2,3] O O O ?_;refine CL (Yoa F fv _ _ 6 t.text (h.kF.grow g) h.hF) ?_;rintro v60 w60 ⟨⟨p60,c60,rfl,hk60⟩,g60⟩;refine ⟨fun _=>g60,?_⟩;have g:=g.trans g60;have gl1:=gl1.trans (g60);replace E:=E.grow g60;refine Yi ((g60).only _) ?_;refine Zx 7 O O (fun _=>Zl (Zc O)) (Zx 8 O O (fun _=>Xs (Zc O) O) (Zx 9 O O (fun _=>Xs (Zc O) O) (Zv 11 O O ?_)));refine Yf (L':=[12]) [3,3,3,0,3,0,1,3,3,3,1,2,3] O O O O ?_;refine AS fun _ ga _ g E=>?_;first|replace gl1:=Yb gl1 ga (by omega)|clear gl1|skip
 have hk60:=Ud hk60;refine Yx ?_;refine Zx 12 O O (fun _=>Yt (Zc O)) (Ula [(0,_,_),(3,_,_),(4,_,_),(6,_,_),(9,_,_),(10,_,_),(53,_,_),(54,_,_),(55,_,_),(56,_,_),(57,_,_),(58,_,_),(59,_,_),(60,_,_),(61,_,_),(62,_,_)] (Za O (Za O (Za O (Za O (Za O (Za O (Za O (Za O (Za O (Za O (Za O (Za O (Za O (Za O (Za O (Za O (Zp _))))))))))))))))) (Qk (kq (Zj (Zm (Zq O (Yte O O (Ze (kq (Wm O (fun h3=>?_) (fun h3=>?_)))))))))));replace h3:0≤(findD F 6 t.text).2:=by simp only [decide_eq_true_eq] at h3;omega
 have hl6:=H.l6 h3;refine Zj (Zm (Zq O (Yj Qc O (AS fun _ ga _ g E=>?_))));first|replace gl1:=Yb gl1 ga (by omega)|clear gl1|skip
 have hk60:=Ud hk60;refine Yj Vg O (AS fun _ ga _ g E=>?_);first|replace gl1:=Yb gl1 ga (by omega)|clear gl1|skip
 have hk60:=Ud hk60;refine Ze (kq (Zj (Zm (?_))));obtain ⟨e0,p1,c1,hcell,hkid⟩:=Yk hk60 (i:=0) hl6;refine Yj Zg O (Yq Zf O (E.g0.at_ O) (Jm Zd O O (by omega) e0 (Vf Zh O O hcell (Vh O (Yl Ynb Vi (aqc O aq0) O) (Vbb (Zb (findD F 6 t.text).1 0) _ _ _) (fun w73 g73=>?_)))));have g:=g.trans g73;replace E:=E.grow g73;refine Zq O (Vvc O O (Vvc O O (Yj Wl O (Xi O Wi (Zc O) (Zc O) O O E.g1 O O ?_))));intro wS11 hgS11 _ BS;replace E:=E.s1 hgS11 BS;have g:=Yb g hgS11 (by omega);first|replace gl1:=Yb gl1 hgS11 (by omega)|clear gl1|skip
 refine Ze (kq (Zj (Zm (Vf Zh O O E.g1.row (AS fun _ ga _ g E=>?_)))));first|replace gl1:=Yb gl1 ga (by omega)|clear gl1|skip
 refine Yo O (Ze (kq (Xd (Uq (rs:=[.cell 4 26,.tmp 5]) (vs:=[_,_]) O O (Jd O Zh O (E.g2.row) (Qh O (Wz))) O ?_))));refine ⟨?_,g⟩;unfold lookR;rw [hF];dsimp only;rw [Ywh h3];rfl;replace h3:¬ 0≤(findD F 6 t.text).2:=by simp only [decide_eq_false_iff_not] at h3;omega
 refine Ya (kq (Zj (Zj (Xu (rowR none) [3,3,3,0,3,0,1,3,3,3,1,2,3] [0,1,3,7,0,16,63,127,255,255,0,1535,4095] mix (by kernel_rfl) [0,1,2,3,4,5,6,7,8,9,10,11,12] O ?_))));have g:=gdr g;have gl1:=gl1.trans (G.drew _);replace E:=E.dr;refine Zx 0 O O (fun _=>Zl (Zc O)) (Zx 1 O O (fun _=>Jo (Zc O)) (Zx 2 O O (fun _=>Zn Wd (Zc O)) (Wf 3 O O (fun w1 hx=>Zy Zh (Zc O) O (fun _=>((h.B.grow g).keep hx (by intro q;first|(injection q with q;omega)|cases q)).row.part 0 9)) (Zx 4 O O (fun _=>Zn Yn (Zc O)) (Wf 5 O O (fun w1 hx=>Zt Yg (Zc O) (fun _=>(E.g3.keep hx (fun h=>nomatch h)).at_ O)) (Uua 6 10 O O ?_ ?_))))));refine Zw (L':=[7,8,9,10,11,12]) [3,3,3,0,3,0,1,3,3,3,1,2,3] rfl rfl rfl ?_;refine CL (Yoa F fv _ _ 4 t.text (h.kF.grow g) h.hF) ?_;rintro v85 w85 ⟨⟨p85,c85,rfl,hk85⟩,g85⟩;refine ⟨fun _=>g85,?_⟩;have g:=g.trans g85;have gl1:=gl1.trans (g85);replace E:=E.grow g85;refine Yi ((g85).only _) ?_;refine Zx 7 O O (fun _=>Zl (Zc O)) (Zx 8 O O (fun _=>Xs (Zc O) O) (Zx 9 O O (fun _=>Xs (Zc O) O) (Zv 10 O O ?_)));refine Zw (L':=[11,12]) [3,3,3,0,3,0,1,3,3,3,1,2,3] O O O ?_;refine AN fun _ _ N11 l11 g E=>?_;have l11_gl1:=N11.ge gl1;have gl1:=gl1.trans (N11.g);have hk85:=hk85.grow (N11.g);refine Yi ((N11.g).only _) ?_;refine Zv 11 O O ?_;refine Yf (L':=[12]) [3,3,3,0,3,0,1,3,3,3,1,2,3] O O O O ?_;refine AS fun _ ga _ g E=>?_;first|replace gl1:=Yb gl1 ga (by omega)|clear gl1|skip
 have hk85:=Ud hk85;refine Yx ?_;refine Zx 12 O O (fun _=>Yt (Zc O)) (Ula [(0,_,_),(3,_,_),(4,_,_),(6,_,_),(9,_,_),(10,_,_),(11,_,_),(12,_,_),(53,_,_),(54,_,_),(55,_,_),(56,_,_),(57,_,_),(58,_,_),(59,_,_),(60,_,_),(61,_,_),(62,_,_),(63,_,_),(64,_,_),(78,_,_),(79,_,_),(80,_,_),(81,_,_),(82,_,_),(83,_,_),(84,_,_),(85,_,_),(86,_,_),(87,_,_)] (Za O (Za O (Za O (Za O (Za O (Za O (Za O (Za O (Za O (Za O (Za O (Za O (Za O (Za O (Za O (Za O (Za O (Za O (Za O (Za O (Za O (Za O (Za O (Za O (Za O (Za O (Za O (Za O (Za O (Za O (Zp _))))))))))))))))))))))))))))))) (Qk (kq (Zj (Zm (Zq O (Yte O O (Ze (kq (Wm O (fun h4=>?_) (fun h4=>?_)))))))))));replace h4:0≤(findD F 4 t.text).2:=by simp only [decide_eq_true_eq] at h4;omega
 have hl4:=H.l4 h4;refine Zj (Zm (Zq O (Yj Qc O (AS fun _ ga _ g E=>?_))));first|replace gl1:=Yb gl1 ga (by omega)|clear gl1|skip
 have hk85:=Ud hk85;refine Yj Vg O (AS fun _ ga _ g E=>?_);first|replace gl1:=Yb gl1 ga (by omega)|clear gl1|skip
 have hk85:=Ud hk85;refine Ze (kq (Zj (Zj (Zm (?_)))));obtain ⟨e0,p1,c1,hcell,hkid⟩:=Yk hk85 (i:=0) (by omega);obtain ⟨e1,p2,c2,hcell1,hkid1⟩:=Yk hk85 (i:=1) (by omega);refine Yj Zg O (Yq Zf O (E.g0.at_ O) (Jm Zd O O (by omega) e0 (Yj Zg O (Yq Zf O (hcell.one (i:=4) O) (Xla Zd O (Zwa O O (Zq O (Zi O O O (fun _=>Zn Zg (Zc O)) (Ye O O O (Zt Zf (Zk O id) (fun _=>E.g0.at_ O)) (Zi O O O (fun _=>Yz Zd (Zk O id) Xg (fun _=>by omega) (fun _=>e1)) (Zi O O O (fun _=>Zn Xm (Zk O id)) (Ye O O O (Zt Yd (Zk O id) (fun _=>hcell1.one (i:=0) O)) (Zi O O O (fun _=>Zla (Zk O id) Xg) (Zo O (fun _=>Zz (Zc O) (Zk O id)) (Ze (kq (?_)))))))))))))))));refine Wm O (fun h5=>?_) (fun h5=>?_);(try simp only [bsimp] at h5);refine Zm (Zba Wn Ve (pqc O pq0) O O (Yj Wl O (Xi O Wi (Zc O) (Zc O) O O E.g2 O O ?_)));intro wS16 hgS16 _ BS;replace E:=E.s2 hgS16 BS;have g:=Yb g hgS16 (by omega);first|replace gl1:=Yb gl1 hgS16 (by omega)|clear gl1|skip
 refine Ze (kq (Zj (Zm (Vf Zh O O E.g2.row (AS fun _ ga _ g E=>?_)))));first|replace gl1:=Yb gl1 ga (by omega)|clear gl1|skip
 refine Yo O (Ze (kq (Xd (Uq (rs:=[.cell 4 26,.tmp 5]) (vs:=[_,_]) O O (Jd O Zh O (E.g3.row) (Qh O (Wz))) O ?_))));refine ⟨?_,g⟩;unfold lookR;rw [hF];dsimp only;rw [Yvh h3,Ywh h4,Vbc,h5];rfl;refine Ya (kq (Zj (Zm (Vf Zh O O E.g2.row (AS fun _ ga _ g E=>?_)))));first|replace gl1:=Yb gl1 ga (by omega)|clear gl1|skip
 refine Yo O (Ze (kq (Xd (Uq (rs:=[.cell 4 26,.tmp 5]) (vs:=[_,_]) O O (Jd O Zh O (E.g3.row) (Qh O (Wz))) O ?_))));refine ⟨?_,g⟩;unfold lookR;rw [hF];dsimp only;rw [Yvh h3,Ywh h4,Vbc,h5];rfl;replace h4:¬ 0≤(findD F 4 t.text).2:=by simp only [decide_eq_false_iff_not] at h4;omega
 refine Ya (kq (Zj (Zm (Vf Zh O O E.g2.row (AS fun _ ga _ g E=>?_)))));first|replace gl1:=Yb gl1 ga (by omega)|clear gl1|skip
 refine Yo O (Ze (kq (Xd (Uq (rs:=[.cell 4 26,.tmp 5]) (vs:=[_,_]) O O (Jd O Zh O (E.g3.row) (Qh O (Wz))) O ?_))));refine ⟨?_,g⟩;unfold lookR;rw [hF];dsimp only;rw [Yvh h3,Yvh h4];rfl;refine Zw (L':=[6,7,8,9,11,12]) [3,3,3,0,3,0,1,3,3,3,1,2,3] rfl rfl rfl ?_;refine AN fun _ _ N11 _ g E=>?_;have l11_gl1:=N11.ge gl1;have gl1:=gl1.trans (N11.g);refine Yi ((N11.g).only _) ?_;refine Zv 6 O O ?_;refine Zw (L':=[7,8,9,11,12]) [3,3,3,0,3,0,1,3,3,3,1,2,3] O O O ?_;refine CL (Yoa F fv _ _ 4 t.text (h.kF.grow g) h.hF) ?_;rintro v85 w85 ⟨⟨p85,c85,rfl,hk85⟩,g85⟩;refine ⟨fun _=>g85,?_⟩;have g:=g.trans g85;have gl1:=gl1.trans (g85);replace E:=E.grow g85;refine Yi ((g85).only _) ?_;refine Zx 7 O O (fun _=>Zl (Zc O)) (Zx 8 O O (fun _=>Xs (Zc O) O) (Zx 9 O O (fun _=>Xs (Zc O) O) (Zv 11 O O ?_)));refine Yf (L':=[12]) [3,3,3,0,3,0,1,3,3,3,1,2,3] O O O O ?_;refine AS fun _ ga _ g E=>?_;first|replace gl1:=Yb gl1 ga (by omega)|clear gl1|skip
 have hk85:=Ud hk85;refine Yx ?_;refine Zx 12 O O (fun _=>Yt (Zc O)) (Ula [(0,_,_),(3,_,_),(4,_,_),(6,_,_),(9,_,_),(10,_,_),(11,_,_),(12,_,_),(53,_,_),(54,_,_),(55,_,_),(56,_,_),(57,_,_),(58,_,_),(59,_,_),(60,_,_),(61,_,_),(62,_,_),(63,_,_),(64,_,_),(78,_,_),(79,_,_),(80,_,_),(81,_,_),(82,_,_),(83,_,_),(84,_,_),(85,_,_),(86,_,_),(87,_,_)] (Za O (Za O (Za O (Za O (Za O (Za O (Za O (Za O (Za O (Za O (Za O (Za O (Za O (Za O (Za O (Za O (Za O (Za O (Za O (Za O (Za O (Za O (Za O (Za O (Za O (Za O (Za O (Za O (Za O (Za O (Zp _))))))))))))))))))))))))))))))) (Qk (kq (Zj (Zm (Zq O (Yte O O (Ze (kq (Wm O (fun h4=>?_) (fun h4=>?_)))))))))));replace h4:0≤(findD F 4 t.text).2:=by simp only [decide_eq_true_eq] at h4;omega
 have hl4:=H.l4 h4;refine Zj (Zm (Zq O (Yj Qc O (AS fun _ ga _ g E=>?_))));first|replace gl1:=Yb gl1 ga (by omega)|clear gl1|skip
 have hk85:=Ud hk85;refine Yj Vg O (AS fun _ ga _ g E=>?_);first|replace gl1:=Yb gl1 ga (by omega)|clear gl1|skip
 have hk85:=Ud hk85;refine Ze (kq (Zj (Zj (Zm (?_)))));obtain ⟨e0,p1,c1,hcell,hkid⟩:=Yk hk85 (i:=0) (by omega);obtain ⟨e1,p2,c2,hcell1,hkid1⟩:=Yk hk85 (i:=1) (by omega);refine Yj Zg O (Yq Zf O (E.g0.at_ O) (Jm Zd O O (by omega) e0 (Yj Zg O (Yq Zf O (hcell.one (i:=4) O) (Xla Zd O (Zwa O O (Zq O (Zi O O O (fun _=>Zn Zg (Zc O)) (Ye O O O (Zt Zf (Zk O id) (fun _=>E.g0.at_ O)) (Zi O O O (fun _=>Yz Zd (Zk O id) Xg (fun _=>by omega) (fun _=>e1)) (Zi O O O (fun _=>Zn Xm (Zk O id)) (Ye O O O (Zt Yd (Zk O id) (fun _=>hcell1.one (i:=0) O)) (Zi O O O (fun _=>Zla (Zk O id) Xg) (Zo O (fun _=>Zz (Zc O) (Zk O id)) (Ze (kq (?_)))))))))))))))));refine Wm O (fun h5=>?_) (fun h5=>?_);(try simp only [bsimp] at h5);refine Zm (Zba Wn Ve (pqc O pq0) O O (Yj Wl O (Xi O Wi (Zc O) (Zc O) O O E.g2 O O ?_)));intro wS16 hgS16 _ BS;replace E:=E.s2 hgS16 BS;have g:=Yb g hgS16 (by omega);first|replace gl1:=Yb gl1 hgS16 (by omega)|clear gl1|skip
 refine Ze (kq (Zj (Zm (Vf Zh O O E.g2.row (AS fun _ ga _ g E=>?_)))));first|replace gl1:=Yb gl1 ga (by omega)|clear gl1|skip
 refine Yo O (Ze (kq (Xd (Uq (rs:=[.cell 4 26,.tmp 5]) (vs:=[_,_]) O O (Jd O Zh O (E.g3.row) (Qh O (Wz))) O ?_))));refine ⟨?_,g⟩;unfold lookR;rw [hF];dsimp only;rw [Yvh h3,Ywh h4,Vbc,h5];rfl;refine Ya (kq (Zj (Zm (Vf Zh O O E.g2.row (AS fun _ ga _ g E=>?_)))));first|replace gl1:=Yb gl1 ga (by omega)|clear gl1|skip
 refine Yo O (Ze (kq (Xd (Uq (rs:=[.cell 4 26,.tmp 5]) (vs:=[_,_]) O O (Jd O Zh O (E.g3.row) (Qh O (Wz))) O ?_))));refine ⟨?_,g⟩;unfold lookR;rw [hF];dsimp only;rw [Yvh h3,Ywh h4,Vbc,h5];rfl;replace h4:¬ 0≤(findD F 4 t.text).2:=by simp only [decide_eq_false_iff_not] at h4;omega
 refine Ya (kq (Zj (Zm (Vf Zh O O E.g2.row (AS fun _ ga _ g E=>?_)))));first|replace gl1:=Yb gl1 ga (by omega)|clear gl1|skip
 refine Yo O (Ze (kq (Xd (Uq (rs:=[.cell 4 26,.tmp 5]) (vs:=[_,_]) O O (Jd O Zh O (E.g3.row) (Qh O (Wz))) O ?_))));refine ⟨?_,g⟩;unfold lookR;rw [hF];dsimp only;rw [Yvh h3,Yvh h4];rfl
theorem Zue{s:List UInt8}(h:nameB s=true):s≠[]:=by
 intro e;subst e;revert h;decide
theorem Ur{t:Nd}{f:Nd→Bool}(h:t.kids.all f=true){i:Nat}(hi:i<t.kids.length):f (Zb t i)=true:=by
 rw [Wg hi];exact List.all_eq_true.1 h _ (List.getElem_mem hi)
theorem Jrg{s:List UInt8}(h:anyS binOps s=true):s≠[]:=by
 intro e;subst e;revert h;decide
theorem Vpg{t:Nd}(h:isTypeB t=true):t.kids.length=0:=by
 unfold isTypeB at h;cases h1:decide (t.kind=8);rw [h1] at h;cases h2:decide (t.kind=7);rw [h2] at h;cases h;rw [h2] at h;have h:(typeNameB t.text&&leafB t)=true:=h;have:=(Bool.and_eq_true_iff.1 h).2;unfold leafB at this;simp at this;simp [this];rw [h1] at h;have h:(nameB t.text&&leafB t)=true:=h;have:=(Bool.and_eq_true_iff.1 h).2;unfold leafB at this;simp at this;simp [this]
theorem Xya{t:Nd}(h:noneB t=true):t.kind=9∧t.text=[]∧t.kids.length=0:=by
 unfold noneB at h;simp only [Bool.and_eq_true,decide_eq_true_eq] at h;exact ⟨h.1.1,h.1.2,by simpa [lenK] using h.2⟩
theorem Zve{t:Nd}{k:Int}(h:kindB t k=true):t.kind=k∧exprB t=true:=by
 unfold kindB at h;simp only [Bool.and_eq_true,decide_eq_true_eq] at h;exact h
theorem Zeb{t:Nd}(h:blockB t=true):t.kind=10:=of_decide_eq_true (Bool.and_eq_true_iff.1 h).1
theorem sh28{t:Nd}(h:t.kind=28)(hx:exprB t=true):t.text≠[]∧t.kids.length=1∧exprB (Zb t 0)=true:=by
 rw [← Zoa] at hx;unfold Qq at hx;rw [h] at hx;have hx:((nameB t.text&&lenK t 1)&&exprB (Zb t 0))=true:=hx;simp only [Bool.and_eq_true,Bool.or_eq_true,decide_eq_true_eq] at hx;exact ⟨Zue hx.1.1,by (have hz:=hx.1.2;first|(unfold lenK at hz;simp at hz;omega)|(simp at hz;omega)),hx.2⟩
theorem sh29{t:Nd}(h:t.kind=29)(hx:exprB t=true):t.kids.length=2∧exprB (Zb t 0)=true∧exprB (Zb t 1)=true:=by
 rw [← Zoa] at hx;unfold Qq at hx;rw [h] at hx;have hx:((plainB t&&lenK t 2)&&t.kids.all exprB)=true:=hx;simp only [Bool.and_eq_true,Bool.or_eq_true,decide_eq_true_eq] at hx;exact ⟨by (have hz:=hx.1.2;first|(unfold lenK at hz;simp at hz;omega)|(simp at hz;omega)),Ur hx.2 (by (have hz:=hx.1.2;first|(unfold lenK at hz;simp at hz;omega)|(simp at hz;omega))),Ur hx.2 (by (have hz:=hx.1.2;first|(unfold lenK at hz;simp at hz;omega)|(simp at hz;omega)))⟩
theorem sh30{t:Nd}(h:t.kind=30)(hx:exprB t=true):1≤t.kids.length∧t.kids.all exprB=true:=by
 rw [← Zoa] at hx;unfold Qq at hx;rw [h] at hx;have hx:((plainB t&&decide (1≤(t.kids.length:Int)))&&t.kids.all exprB)=true:=hx;simp only [Bool.and_eq_true,Bool.or_eq_true,decide_eq_true_eq] at hx;exact ⟨by have:=hx.1.2;omega,hx.2⟩
theorem sh31{t:Nd}(h:t.kind=31)(hx:exprB t=true):t.text≠[]∧t.kids.length=1∧exprB (Zb t 0)=true:=by
 rw [← Zoa] at hx;unfold Qq at hx;rw [h] at hx;have hx:(((decide (t.text=[45]) || decide (t.text=[33]))&&lenK t 1)&&exprB (Zb t 0))=true:=hx;simp only [Bool.and_eq_true,Bool.or_eq_true,decide_eq_true_eq] at hx;exact ⟨by rcases hx.1.1 with e|e <;> rw [e] <;> simp,by (have hz:=hx.1.2;first|(unfold lenK at hz;simp at hz;omega)|(simp at hz;omega)),hx.2⟩
theorem sh32{t:Nd}(h:t.kind=32)(hx:exprB t=true):t.text≠[]∧t.kids.length=2∧exprB (Zb t 0)=true∧exprB (Zb t 1)=true:=by
 rw [← Zoa] at hx;unfold Qq at hx;rw [h] at hx;have hx:((anyS binOps t.text&&lenK t 2)&&t.kids.all exprB)=true:=hx;simp only [Bool.and_eq_true,Bool.or_eq_true,decide_eq_true_eq] at hx;exact ⟨Jrg hx.1.1,by (have hz:=hx.1.2;first|(unfold lenK at hz;simp at hz;omega)|(simp at hz;omega)),Ur hx.2 (by (have hz:=hx.1.2;first|(unfold lenK at hz;simp at hz;omega)|(simp at hz;omega))),Ur hx.2 (by (have hz:=hx.1.2;first|(unfold lenK at hz;simp at hz;omega)|(simp at hz;omega)))⟩
theorem sh33{t:Nd}(h:t.kind=33)(hx:exprB t=true):t.kids.length=1∧exprB (Zb t 0)=true:=by
 rw [← Zoa] at hx;unfold Qq at hx;rw [h] at hx;have hx:((plainB t&&lenK t 1)&&exprB (Zb t 0))=true:=hx;simp only [Bool.and_eq_true,Bool.or_eq_true,decide_eq_true_eq] at hx;exact ⟨by (have hz:=hx.1.2;first|(unfold lenK at hz;simp at hz;omega)|(simp at hz;omega)),hx.2⟩
theorem sh35{t:Nd}(h:t.kind=35)(hx:exprB t=true):t.kids.length=1∧exprB (Zb t 0)=true:=by
 rw [← Zoa] at hx;unfold Qq at hx;rw [h] at hx;have hx:((plainB t&&lenK t 1)&&exprB (Zb t 0))=true:=hx;simp only [Bool.and_eq_true,Bool.or_eq_true,decide_eq_true_eq] at hx;exact ⟨by (have hz:=hx.1.2;first|(unfold lenK at hz;simp at hz;omega)|(simp at hz;omega)),hx.2⟩
theorem sh36{t:Nd}(h:t.kind=36)(hx:exprB t=true):t.kids.length=1∧exprB (Zb t 0)=true:=by
 rw [← Zoa] at hx;unfold Qq at hx;rw [h] at hx;have hx:((plainB t&&lenK t 1)&&exprB (Zb t 0))=true:=hx;simp only [Bool.and_eq_true,Bool.or_eq_true,decide_eq_true_eq] at hx;exact ⟨by (have hz:=hx.1.2;first|(unfold lenK at hz;simp at hz;omega)|(simp at hz;omega)),hx.2⟩
theorem sh37{t:Nd}(h:t.kind=37)(hx:exprB t=true):t.kids.length=1∧exprB (Zb t 0)=true:=by
 rw [← Zoa] at hx;unfold Qq at hx;rw [h] at hx;have hx:((plainB t&&lenK t 1)&&exprB (Zb t 0))=true:=hx;simp only [Bool.and_eq_true,Bool.or_eq_true,decide_eq_true_eq] at hx;exact ⟨by (have hz:=hx.1.2;first|(unfold lenK at hz;simp at hz;omega)|(simp at hz;omega)),hx.2⟩
theorem sh38{t:Nd}(h:t.kind=38)(hx:exprB t=true):t.kids.length=1∧blockB (Zb t 0)=true:=by
 rw [← Zoa] at hx;unfold Qq at hx;rw [h] at hx;have hx:((plainB t&&lenK t 1)&&blockB (Zb t 0))=true:=hx;simp only [Bool.and_eq_true,Bool.or_eq_true,decide_eq_true_eq] at hx;exact ⟨by (have hz:=hx.1.2;first|(unfold lenK at hz;simp at hz;omega)|(simp at hz;omega)),hx.2⟩
theorem sh11{t:Nd}(h:t.kind=11)(hx:stmtB t=true):t.text≠[]∧t.kids.length=1∧exprB (Zb t 0)=true:=by
 rw [← Qy] at hx;unfold refStmt at hx;rw [h] at hx;have hx:((nameB t.text&&lenK t 1)&&exprB (Zb t 0))=true:=hx;simp only [Bool.and_eq_true,Bool.or_eq_true,decide_eq_true_eq] at hx;exact ⟨Zue hx.1.1,by (have hz:=hx.1.2;first|(unfold lenK at hz;simp at hz;omega)|(simp at hz;omega)),hx.2⟩
theorem sh12{t:Nd}(h:t.kind=12)(hx:stmtB t=true):t.kids.length=2∧exprB (Zb t 0)=true∧exprB (Zb t 1)=true:=by
 rw [← Qy] at hx;unfold refStmt at hx;rw [h] at hx;have hx:((plainB t&&lenK t 2)&&t.kids.all exprB)=true:=hx;simp only [Bool.and_eq_true,Bool.or_eq_true,decide_eq_true_eq] at hx;exact ⟨by (have hz:=hx.1.2;first|(unfold lenK at hz;simp at hz;omega)|(simp at hz;omega)),Ur hx.2 (by (have hz:=hx.1.2;first|(unfold lenK at hz;simp at hz;omega)|(simp at hz;omega))),Ur hx.2 (by (have hz:=hx.1.2;first|(unfold lenK at hz;simp at hz;omega)|(simp at hz;omega)))⟩
theorem sh16{t:Nd}(h:t.kind=16)(hx:stmtB t=true):t.kids.length=2∧exprB (Zb t 0)=true∧exprB (Zb t 1)=true:=by
 rw [← Qy] at hx;unfold refStmt at hx;rw [h] at hx;have hx:((plainB t&&lenK t 2)&&t.kids.all exprB)=true:=hx;simp only [Bool.and_eq_true,Bool.or_eq_true,decide_eq_true_eq] at hx;exact ⟨by (have hz:=hx.1.2;first|(unfold lenK at hz;simp at hz;omega)|(simp at hz;omega)),Ur hx.2 (by (have hz:=hx.1.2;first|(unfold lenK at hz;simp at hz;omega)|(simp at hz;omega))),Ur hx.2 (by (have hz:=hx.1.2;first|(unfold lenK at hz;simp at hz;omega)|(simp at hz;omega)))⟩
theorem sh13{t:Nd}(h:t.kind=13)(hx:stmtB t=true):t.kids.length=1∧exprB (Zb t 0)=true:=by
 rw [← Qy] at hx;unfold refStmt at hx;rw [h] at hx;have hx:((plainB t&&lenK t 1)&&(kindB (Zb t 0) 30 || kindB (Zb t 0) 33))=true:=hx;simp only [Bool.and_eq_true,Bool.or_eq_true,decide_eq_true_eq] at hx;exact ⟨by (have hz:=hx.1.2;first|(unfold lenK at hz;simp at hz;omega)|(simp at hz;omega)),hx.2.elim (fun h=>(Zve h).2) (fun h=>(Zve h).2)⟩
theorem sh14{t:Nd}(h:t.kind=14)(hx:stmtB t=true):t.kids.length=1∧exprB (Zb t 0)=true:=by
 rw [← Qy] at hx;unfold refStmt at hx;rw [h] at hx;have hx:((plainB t&&lenK t 1)&&kindB (Zb t 0) 30)=true:=hx;simp only [Bool.and_eq_true,Bool.or_eq_true,decide_eq_true_eq] at hx;exact ⟨by (have hz:=hx.1.2;first|(unfold lenK at hz;simp at hz;omega)|(simp at hz;omega)),(Zve hx.2).2⟩
theorem sh15{t:Nd}(h:t.kind=15)(hx:stmtB t=true):t.kids.length=1∧exprB (Zb t 0)=true:=by
 rw [← Qy] at hx;unfold refStmt at hx;rw [h] at hx;have hx:((plainB t&&lenK t 1)&&kindB (Zb t 0) 30)=true:=hx;simp only [Bool.and_eq_true,Bool.or_eq_true,decide_eq_true_eq] at hx;exact ⟨by (have hz:=hx.1.2;first|(unfold lenK at hz;simp at hz;omega)|(simp at hz;omega)),(Zve hx.2).2⟩
theorem sh17{t:Nd}(h:t.kind=17)(hx:stmtB t=true):t.kids.length=1∧exprB (Zb t 0)=true:=by
 rw [← Qy] at hx;unfold refStmt at hx;rw [h] at hx;have hx:((plainB t&&lenK t 1)&&exprB (Zb t 0))=true:=hx;simp only [Bool.and_eq_true,Bool.or_eq_true,decide_eq_true_eq] at hx;exact ⟨by (have hz:=hx.1.2;first|(unfold lenK at hz;simp at hz;omega)|(simp at hz;omega)),hx.2⟩
theorem sh21{t:Nd}(h:t.kind=21)(hx:stmtB t=true):t.kids.length=1∧exprB (Zb t 0)=true:=by
 rw [← Qy] at hx;unfold refStmt at hx;rw [h] at hx;have hx:((plainB t&&lenK t 1)&&exprB (Zb t 0))=true:=hx;simp only [Bool.and_eq_true,Bool.or_eq_true,decide_eq_true_eq] at hx;exact ⟨by (have hz:=hx.1.2;first|(unfold lenK at hz;simp at hz;omega)|(simp at hz;omega)),hx.2⟩
theorem sh20{t:Nd}(h:t.kind=20)(hx:stmtB t=true):t.kids.length≤1∧t.kids.all exprB=true:=by
 rw [← Qy] at hx;unfold refStmt at hx;rw [h] at hx;have hx:((plainB t&&decide ((t.kids.length:Int)≤1))&&t.kids.all exprB)=true:=hx;simp only [Bool.and_eq_true,Bool.or_eq_true,decide_eq_true_eq] at hx;exact ⟨by have:=hx.1.2;omega,hx.2⟩
theorem sh19{t:Nd}(h:t.kind=19)(hx:stmtB t=true):t.kids.length=2∧(noneB (Zb t 0)=true∨exprB (Zb t 0)=true)∧blockB (Zb t 1)=true:=by
 rw [← Qy] at hx;unfold refStmt at hx;rw [h] at hx;have hx:(((plainB t&&lenK t 2)&&(noneB (Zb t 0) || exprB (Zb t 0)))&&blockB (Zb t 1))=true:=hx;simp only [Bool.and_eq_true,Bool.or_eq_true,decide_eq_true_eq] at hx;exact ⟨by (have hz:=hx.1.1.2;first|(unfold lenK at hz;simp at hz;omega)|(simp at hz;omega)),hx.1.2,hx.2⟩
theorem sh6s{t:Nd}(h:t.kind=6)(hx:stmtB t=true):varB t=true:=by
 rw [← Qy] at hx;unfold refStmt at hx;rw [h] at hx;have hx:(varB t)=true:=hx;exact hx
theorem sh10s{t:Nd}(h:t.kind=10)(hx:stmtB t=true):blockB t=true:=by
 rw [← Qy] at hx;unfold refStmt at hx;rw [h] at hx;have hx:(blockB t)=true:=hx;exact hx
theorem sh18s{t:Nd}(h:t.kind=18)(hx:stmtB t=true):ifB t=true:=by
 rw [← Qy] at hx;unfold refStmt at hx;rw [h] at hx;have hx:(ifB t)=true:=hx;exact hx
theorem sh10{t:Nd}(hx:blockB t=true):t.kids.all stmtB=true:=by
 rw [← Qgc,Wzc] at hx;cases h:(!decide (t.kind=10) || !plainB t);rw [h] at hx;exact hx;rw [h] at hx;cases hx
theorem sh18{t:Nd}(hx:ifB t=true):t.kids.length=3∧exprB (Zb t 0)=true∧blockB (Zb t 1)=true∧(blockB (Zb t 2)=true∨ifB (Zb t 2)=true∨noneB (Zb t 2)=true):=by
 rw [← Wde,Zqf] at hx;cases h:((!decide (t.kind=18) || !plainB t) || !lenK t 3);rw [h,cond_false] at hx;simp only [Bool.and_eq_true,Bool.or_eq_true] at hx;simp only [Bool.or_eq_false_iff,Bool.not_eq_false'] at h;exact ⟨by (have hz:=h.2;first|(unfold lenK at hz;simp at hz;omega)|(simp at hz;omega)),hx.1.1,hx.1.2,hx.2.elim (fun h=>h.elim .inl fun h=>.inr (.inl h)) fun h=>.inr (.inr h)⟩;rw [h] at hx;cases hx
theorem sh6{t:Nd}(hx:varB t=true):t.text≠[]∧t.kids.length=2∧isTypeB (Zb t 0)=true∧(noneB (Zb t 1)=true∨exprB (Zb t 1)=true):=by
 rw [← Upd,refVar] at hx;simp only [Bool.and_eq_true,Bool.or_eq_true] at hx;exact ⟨Zue hx.1.1.1.2,by (have hz:=hx.1.1.2;first|(unfold lenK at hz;simp at hz;omega)|(simp at hz;omega)),hx.1.2,hx.2⟩
theorem sh22{t:Nd}(h:t.kind=22)(hx:stmtB t=true):t.kids.all Qpa=true:=by
 have hp:permF t=true:=(Bool.and_eq_true_iff.1 hx).2;rw [← Vac h] at hp;exact (Bool.and_eq_true_iff.1 hp).1
theorem sh23{t:Nd}(hx:Qpa t=true):t.kind=23∧t.kids.length=2∧commF (Zb t 0)=true∧blockB (Zb t 1)=true:=by
 unfold Qpa at hx;simp only [Bool.and_eq_true,decide_eq_true_eq] at hx;exact ⟨hx.1.1.1.1,by (have hz:=hx.1.1.2;first|(unfold lenK at hz;simp at hz;omega)|(simp at hz;omega)),hx.1.2,hx.2⟩
theorem Qcd{t:Nd}(h:commF t=true):t.kind=9∨stmtB t=true:=by
 rw [← Xkd,Zub] at h;cases h1:anyK [16,9] t.kind;rw [h1,cond_false] at h;cases h2:decide (t.kind=13);rw [h2,cond_false] at h;cases h3:decide (t.kind=12);rw [h3,cond_false] at h;cases h4:decide (t.kind=11);rw [h4] at h;cases h;rw [h4] at h;exact .inr (Bool.and_eq_true_iff.1 h).1;rw [h3] at h;exact .inr (Bool.and_eq_true_iff.1 h).1;rw [h2] at h;exact .inr (Bool.and_eq_true_iff.1 h).1;rw [h1,cond_true,Bool.or_eq_true] at h;exact h.elim .inr fun h=>.inl (Xya h).1
def tabsL(k:Nat):List UInt8:=List.replicate k 9
def digF:Nat→Nat→List UInt8
 | 0,_=>[]
 | f+1,n=>bif Nat.blt n 10 then [UInt8.ofNat (48+n)] else digF f (n / 10)++[UInt8.ofNat (48+n % 10)]
def digL(n:Nat):List UInt8:=digF 20 n
structure Tx where
  ex:Nat→List UInt8
  st:Nat→List UInt8
  ls:Nat→List UInt8
  cs:Nat→List UInt8
def tx0:Tx:=⟨fun _=>[],fun _=>[],fun _=>[],fun _=>[]⟩
def blkX(x:Tx)(k:Nat):List UInt8:=(([123,10]++x.ls (k+1))++tabsL k)++[125]
def parX(q:Bool)(s:List UInt8):List UInt8:=bif q then ([40]++s)++[41] else s
def joinX:List (List UInt8)→List UInt8
 | []=>[]
 | s::r=>s++r.flatMap fun u=>[44,32]++u
def typeX(t:Nd):List UInt8:=bif decide (t.kind=8) then [42]++t.text else bif decide (t.text=[99,104,97,110]) then [99,104,97,110,32,105,110,116] else bif decide (t.text=[102,117,110,99]) then [102,117,110,99,40,41] else t.text
section
variable (t:Nd) (x:Nat→Tx) (l:List Tx)
def oprX(i k:Nat):List UInt8:=parX (decide ((Zb t i).kind=32)) ((x i).ex k)
def basX(k:Nat):List UInt8:=parX ((decide ((Zb t 0).kind=32) || decide ((Zb t 0).kind=31)) || decide ((Zb t 0).kind=33)) ((x 0).ex k)
def exX(k:Nat):List UInt8 :=
 bif decide (t.kind=24) then digL t.num.toNat
 else bif decide (t.kind=25) then (bif decide (t.num=1) then [116,114,117,101] else [102,97,108,115,101])
 else bif decide (t.kind=26) then [110,105,108]
 else bif decide (t.kind=27) then t.text
 else bif decide (t.kind=34) then ([110,101,119,40]++t.text)++[41]
 else bif decide (t.kind=28) then (basX t x k++[46])++t.text
 else bif decide (t.kind=29) then ((basX t x k++[91])++(x 1).ex k)++[93]
 else bif decide (t.kind=30) then ((basX t x k++[40])++joinX ((l.drop 1).map fun y=>y.ex k))++[41]
 else bif decide (t.kind=31) then t.text++oprX t x 0 k
 else bif decide (t.kind=33) then [60,45]++oprX t x 0 k
 else bif decide (t.kind=32) then (((oprX t x 0 k++[32])++t.text)++[32])++oprX t x 1 k
 else bif decide (t.kind=35) then ([109,97,107,101,40,91,93,105,110,116,44,32]++(x 0).ex k)++[41]
 else bif decide (t.kind=36) then ([109,97,107,101,40,99,104,97,110,32,105,110,116,44,32]++(x 0).ex k)++[41]
 else bif decide (t.kind=37) then ([108,101,110,40]++(x 0).ex k)++[41]
 else [102,117,110,99,40,41,32]++blkX (x 0) k
def varX(k:Nat):List UInt8:=((([118,97,114,32]++t.text)++[32])++typeX (Zb t 0))++(bif decide ((Zb t 1).kind=9) then [] else [32,61,32]++(x 1).ex k)
def ifX(k:Nat):List UInt8:=((([105,102,32]++(x 0).ex k)++[32])++blkX (x 1) k)++(bif decide ((Zb t 2).kind=10) then [32,101,108,115,101,32]++blkX (x 2) k else bif decide ((Zb t 2).kind=18) then [32,101,108,115,101,32]++(x 2).st k else [])
def stX(k:Nat):List UInt8 :=
 bif decide (t.kind=6) then varX t x k
 else bif decide (t.kind=10) then (([123,10]++l.flatMap fun y=>(tabsL (k+1)++y.st (k+1))++[10])++tabsL k)++[125]
 else bif decide (t.kind=11) then (t.text++[32,58,61,32])++(x 0).ex k
 else bif decide (t.kind=12) then ((x 0).ex k++[32,61,32])++(x 1).ex k
 else bif decide (t.kind=13) then (x 0).ex k
 else bif decide (t.kind=14) then [103,111,32]++(x 0).ex k
 else bif decide (t.kind=15) then [100,101,102,101,114,32]++(x 0).ex k
 else bif decide (t.kind=16) then ((x 0).ex k++[32,60,45,32])++(x 1).ex k
 else bif decide (t.kind=17) then ([99,108,111,115,101,40]++(x 0).ex k)++[41]
 else bif decide (t.kind=21) then ([112,114,105,110,116,40]++(x 0).ex k)++[41]
 else bif decide (t.kind=18) then ifX t x k
 else bif decide (t.kind=22) then (([115,101,108,101,99,116,32,123,10]++l.flatMap fun y=>y.cs k)++tabsL k)++[125]
 else bif decide (t.kind=20) then (bif lenK t 0 then [114,101,116,117,114,110] else [114,101,116,117,114,110,32]++(x 0).ex k)
 else bif decide ((Zb t 0).kind=9) then [102,111,114,32]++blkX (x 1) k
 else (([102,111,114,32]++(x 0).ex k)++[32])++blkX (x 1) k
def csX(k:Nat):List UInt8:=(bif decide ((Zb t 0).kind=9) then tabsL k++[100,101,102,97,117,108,116,58,10] else ((tabsL k++[99,97,115,101,32])++(x 0).st k)++[58,10])++(x 1).ls (k+1)
end
def lsX(l:List Tx)(k:Nat):List UInt8:=l.flatMap fun y=>(tabsL k++y.st k)++[10]
def txF(t:Nd)(l:List Tx):Tx:=⟨exX t (fun i=>l.getD i tx0) l,stX t (fun i=>l.getD i tx0) l,lsX l,csX t (fun i=>l.getD i tx0)⟩
def txT(t:Nd):Tx:=para txF t
/-! the program's way: a line feed ahead of each line -/
abbrev Bs:=List UInt8
def cut:Bs→Bs→Option Bs
 | [],s=>some s
 | _::_,[]=>none
 | a::p,b::s=>bif decide (a=b) then cut p s else none
def hd(s:Bs):UInt8:=s.headD 0
def wdF(s:Bs):Bs:=s.takeWhile alB
def wrF(s:Bs):Bs:=s.dropWhile alB
def dgB(c:UInt8):Bool:=digitB c.toNat
def nb(s:Bs):Bool:=!alB (hd s)
def cutOps:List Bs→Bs→Option (Bs×Bs)
 | [],_=>none
 | o::l,s=>match cut (o++[32]) s with
  | some r=>some (o,r)
  | none=>cutOps l s
def Qvg(s:Bs):Option (Bs×Bs):=match cut [32] s with
 | some r=>cutOps binOps r
 | none=>none
def nd(k:Int)(s:Bs)(n:Int)(ks:List Nd):Nd:=.mk k s n 0 ks ty0 0 0
inductive Md where
  | e|u|s (x:Nd)|a (l:List Nd)|b|l (l:List Nd)|t|i|c (l:List Nd)
def tyP(s:Bs):Option (Nd×Bs):=match cut [42] s with
 | some r=>some (nd 8 (wdF r) 0 [],wrF r)
 | none=>match cut [91,93,105,110,116] s with
  | some r=>some (nd 7 [91,93,105,110,116] 0 [],r)
  | none =>
   bif decide (wdF s=[99,104,97,110]) then (cut [32,105,110,116] (wrF s)).map fun r=>(nd 7 [99,104,97,110] 0 [],r)
   else bif decide (wdF s=[102,117,110,99]) then (cut [40,41] (wrF s)).map fun r=>(nd 7 [102,117,110,99] 0 [],r)
   else some (nd 7 (wdF s) 0 [],wrF s)
section
variable (p:Md→Bs→Option (Nd×Bs))
def atP(s:Bs):Option (Nd×Bs) :=
 match cut [40] s with
 | some r=>(p .e r).bind fun x=>(cut [41] x.2).map fun r=>(x.1,r)
 | none =>
  bif dgB (hd s) then some (nd 24 [] (valN 0 (s.takeWhile dgB)) [],s.dropWhile dgB)
  else bif decide (wdF s=[116,114,117,101]) then some (nd 25 [] 1 [],wrF s)
  else bif decide (wdF s=[102,97,108,115,101]) then some (nd 25 [] 0 [],wrF s)
  else bif decide (wdF s=[110,105,108]) then some (nd 26 [] 0 [],wrF s)
  else bif decide (wdF s=[110,101,119]) then (cut [40] (wrF s)).bind fun r=>(cut [41] (wrF r)).map fun r1=>(nd 34 (wdF r) 0 [],r1)
  else bif decide (wdF s=[109,97,107,101]) then
   match cut [40,91,93,105,110,116,44,32] (wrF s) with
   | some r=>(p .e r).bind fun x=>(cut [41] x.2).map fun r=>(nd 35 [] 0 [x.1],r)
   | none=>(cut [40,99,104,97,110,32,105,110,116,44,32] (wrF s)).bind fun r=>(p .e r).bind fun x=>(cut [41] x.2).map fun r=>(nd 36 [] 0 [x.1],r)
  else bif decide (wdF s=[108,101,110]) then (cut [40] (wrF s)).bind fun r=>(p .e r).bind fun x=>(cut [41] x.2).map fun r=>(nd 37 [] 0 [x.1],r)
  else bif decide (wdF s=[102,117,110,99]) then (cut [40,41,32,123,10] (wrF s)).bind fun r=>(p .b r).map fun x=>(nd 38 [] 0 [x.1],x.2)
  else some (nd 27 (wdF s) 0 [],wrF s)
def unP(s:Bs):Option (Nd×Bs) :=
 match cut [45] s with
 | some r=>(p .u r).map fun x=>(nd 31 [45] 0 [x.1],x.2)
 | none=>match cut [33] s with
  | some r=>(p .u r).map fun x=>(nd 31 [33] 0 [x.1],x.2)
  | none=>match cut [60,45] s with
   | some r=>(p .u r).map fun x=>(nd 33 [] 0 [x.1],x.2)
   | none=>(atP p s).bind fun x=>p (.s x.1) x.2
def exP(s:Bs):Option (Nd×Bs):=(p .u s).bind fun x=>match Qvg x.2 with
 | some o=>(p .u o.2).map fun y=>(nd 32 o.1 0 [x.1,y.1],y.2)
 | none=>some x
def sfP(x:Nd)(s:Bs):Option (Nd×Bs) :=
 match cut [46] s with
 | some r=>p (.s (nd 28 (wdF r) 0 [x])) (wrF r)
 | none=>match cut [91] s with
  | some r=>(p .e r).bind fun y=>(cut [93] y.2).bind fun r=>p (.s (nd 29 [] 0 [x,y.1])) r
  | none=>match cut [40] s with
   | some r=>(p (.a []) r).bind fun l=>p (.s (nd 30 [] 0 (x::l.1.kids))) l.2
   | none=>some (x,s)
def arP(l:List Nd)(s:Bs):Option (Nd×Bs) :=
 match cut [41] s with
 | some r=>some (nd 0 [] 0 l,r)
 | none=>(p .e s).bind fun x=>match cut [44,32] x.2 with
  | some r=>p (.a (l++[x.1])) r
  | none=>(cut [41] x.2).map fun r=>(nd 0 [] 0 (l++[x.1]),r)
def tabsP(s:Bs):Bs:=s.dropWhile fun c=>decide (c=9)
def stopB(s:Bs):Bool:=decide (hd s=125) || anyS [[99,97,115,101],[100,101,102,97,117,108,116]] (wdF s)
def lnP(l:List Nd)(s:Bs):Option (Nd×Bs) :=
 bif stopB (tabsP s) then some (nd 10 [] 0 l,tabsP s)
 else (p .t (tabsP s)).bind fun x=>(cut [10] x.2).bind fun r=>p (.l (l++[x.1])) r
def blP'(s:Bs):Option (Nd×Bs):=(p (.l []) s).bind fun x=>(cut [125] x.2).map fun r=>(x.1,r)
def brP(s:Bs):Option (Nd×Bs):=(cut [123,10] s).bind fun r=>p .b r
def ifP(s:Bs):Option (Nd×Bs):=(p .e s).bind fun x=>(cut [32] x.2).bind fun r=>(brP p r).bind fun y =>
 match cut [32,101,108,115,101,32,105,102,32] y.2 with
 | some r=>(p .i r).map fun z=>(nd 18 [] 0 [x.1,y.1,z.1],z.2)
 | none=>match cut [32,101,108,115,101,32] y.2 with
  | some r=>(brP p r).map fun z=>(nd 18 [] 0 [x.1,y.1,z.1],z.2)
  | none=>some (nd 18 [] 0 [x.1,y.1,nd 9 [] 0 []],y.2)
def csP(l:List Nd)(s:Bs):Option (Nd×Bs) :=
 match cut [125] (tabsP s) with
 | some r=>some (nd 22 [] 0 l,r)
 | none=>match cut [100,101,102,97,117,108,116,58,10] (tabsP s) with
  | some r=>(p (.l []) r).bind fun b=>p (.c (l++[nd 23 [] 0 [nd 9 [] 0 [],b.1]])) b.2
  | none=>(cut [99,97,115,101,32] (tabsP s)).bind fun r=>(p .t r).bind fun x=>(cut [58,10] x.2).bind fun r=>(p (.l []) r).bind fun b=>p (.c (l++[nd 23 [] 0 [x.1,b.1]])) b.2
def oneP(k:Int)(s:Bs):Option (Nd×Bs):=(cut [40] s).bind fun r=>(p .e r).bind fun x=>(cut [41] x.2).map fun r=>(nd k [] 0 [x.1],r)
def spP(k:Int)(s:Bs):Option (Nd×Bs):=(cut [32] s).bind fun r=>(p .e r).map fun x=>(nd k [] 0 [x.1],x.2)
def varP(s:Bs):Option (Nd×Bs):=(cut [32] s).bind fun r=>(cut [32] (wrF r)).bind fun r1=>(tyP r1).bind fun y =>
 match cut [32,61,32] y.2 with
 | some r2=>(p .e r2).map fun z=>(nd 6 (wdF r) 0 [y.1,z.1],z.2)
 | none=>some (nd 6 (wdF r) 0 [y.1,nd 9 [] 0 []],y.2)
def simP(s:Bs):Option (Nd×Bs):=(p .e s).bind fun x =>
 match cut [32,58,61,32] x.2 with
 | some r=>(p .e r).map fun y=>(nd 11 x.1.text 0 [y.1],y.2)
 | none=>match cut [32,61,32] x.2 with
  | some r=>(p .e r).map fun y=>(nd 12 [] 0 [x.1,y.1],y.2)
  | none=>match cut [32,60,45,32] x.2 with
   | some r=>(p .e r).map fun y=>(nd 16 [] 0 [x.1,y.1],y.2)
   | none=>some (nd 13 [] 0 [x.1],x.2)
def stP(s:Bs):Option (Nd×Bs) :=
 match cut [123,10] s with
 | some r=>p .b r
 | none =>
  bif decide (wdF s=[118,97,114]) then varP p (wrF s)
  else bif decide (wdF s=[103,111]) then spP p 14 (wrF s)
  else bif decide (wdF s=[100,101,102,101,114]) then spP p 15 (wrF s)
  else bif decide (wdF s=[99,108,111,115,101]) then oneP p 17 (wrF s)
  else bif decide (wdF s=[112,114,105,110,116]) then oneP p 21 (wrF s)
  else bif decide (wdF s=[105,102]) then (cut [32] (wrF s)).bind fun r=>p .i r
  else bif decide (wdF s=[115,101,108,101,99,116]) then (cut [32,123,10] (wrF s)).bind fun r=>p (.c []) r
  else bif decide (wdF s=[114,101,116,117,114,110]) then match cut [32] (wrF s) with
   | some r=>(p .e r).map fun x=>(nd 20 [] 0 [x.1],x.2)
   | none=>some (nd 20 [] 0 [],wrF s)
  else bif decide (wdF s=[102,111,114]) then match cut [32,123,10] (wrF s) with
   | some r=>(p .b r).map fun x=>(nd 19 [] 0 [nd 9 [] 0 [],x.1],x.2)
   | none=>(cut [32] (wrF s)).bind fun r=>(p .e r).bind fun x=>(cut [32] x.2).bind fun r=>(brP p r).map fun y=>(nd 19 [] 0 [x.1,y.1],y.2)
  else simP p s
def stepP:Md→Bs→Option (Nd×Bs)
 | .e,s=>exP p s
 | .u,s=>unP p s
 | .s x,s=>sfP p x s
 | .a l,s=>arP p l s
 | .b,s=>blP' p s
 | .l l,s=>lnP p l s
 | .t,s=>stP p s
 | .i,s=>ifP p s
 | .c l,s=>csP p l s
end
def pG:Nat→Md→Bs→Option (Nd×Bs)
 | 0=>fun _ _=>none
 | f+1=>stepP (pG f)
section
variable {t:Nd} {x:Nat→Tx} {l:List Tx} {k:Nat}
end
theorem Jwf{t:Nd}(h:exprB t=true):t.kind=24∨t.kind=25∨t.kind=26∨t.kind=27∨t.kind=34∨t.kind=28∨t.kind=29∨t.kind=30∨t.kind=31∨t.kind=33∨t.kind=32∨t.kind=35∨t.kind=36∨t.kind=37∨t.kind=38:=by
 have:=(Xkb _ _).1 (Bool.and_eq_true_iff.1 h).1;simp only [List.mem_cons,List.not_mem_nil,or_false] at this;omega
theorem Wrf{t:Nd}(h:stmtB t=true):t.kind=6∨t.kind=10∨t.kind=11∨t.kind=12∨t.kind=13∨t.kind=14∨t.kind=15∨t.kind=16∨t.kind=17∨t.kind=21∨t.kind=18∨t.kind=22∨t.kind=20∨t.kind=19:=by
 have:=(Xkb _ _).1 (Bool.and_eq_true_iff.1 h).1;simp only [List.mem_cons,List.not_mem_nil,or_false] at this;omega
def stW:List Bs:=[[118,97,114],[103,111],[100,101,102,101,114],[99,108,111,115,101],[112,114,105,110,116],[105,102],[115,101,108,101,99,116],[114,101,116,117,114,110],[102,111,114],[99,97,115,101],[100,101,102,97,117,108,116]]
def opn(c:UInt8):Bool:=alB c || (decide (c=40) || (decide (c=45) || (decide (c=33) || decide (c=60))))
structure Hx (s:Bs):Prop where
  o:opn (hd s)=true
  w:anyS stW (wdF s)=false
theorem kids1{t:Nd}(h:t.kids.length=1):t.kids=[Zb t 0]:=by
 match hk:t.kids with
 | [a]=>rw [Zb,hk];rfl
 | []=>rw [hk] at h;cases h
 | _::_::_=>rw [hk] at h;simp at h
theorem kids2{t:Nd}(h:t.kids.length=2):t.kids=[Zb t 0,Zb t 1]:=by
 match hk:t.kids with
 | [a,b]=>rw [Zb,Zb,hk];rfl
 | []=>rw [hk] at h;cases h
 | [_]=>rw [hk] at h;cases h
 | _::_::_::_=>rw [hk] at h;simp at h
theorem kids3{t:Nd}(h:t.kids.length=3):t.kids=[Zb t 0,Zb t 1,Zb t 2]:=by
 match hk:t.kids with
 | [a,b,c]=>rw [Zb,Zb,Zb,hk];rfl
 | []=>rw [hk] at h;cases h
 | [_]=>rw [hk] at h;cases h
 | [_,_]=>rw [hk] at h;cases h
 | _::_::_::_::_=>rw [hk] at h;simp at h
theorem cn1{t:Nd}(h:t.kids.length=1):count t=1+count (Zb t 0):=by rw [Uw,kids1 h];simp
theorem cn2{t:Nd}(h:t.kids.length=2):count t=1+count (Zb t 0)+count (Zb t 1):=by rw [Uw,kids2 h];simp;omega
theorem cn3{t:Nd}(h:t.kids.length=3):count t=1+count (Zb t 0)+count (Zb t 1)+count (Zb t 2):=by rw [Uw,kids3 h];simp;omega
theorem Jsg{s:Bs}(h:opn (hd s)=true){c:UInt8}(hc:opn c=false):hd s≠c:=fun e=>by rw [e,hc] at h;cases h
theorem Hx.ne{s:Bs}(h:Hx s){c:UInt8}(hc:opn c=false):hd s≠c:=Jsg h.o hc
def folB(r:Bs):Bool:=nb r&&(decide (hd r≠46)&&(decide (hd r≠91)&&decide (hd r≠40)))
structure Rx (t:Nd):Prop where
  e:exprB t=true→∀ k r f,folB r=true→Qvg r=none→10*count t≤f+2→pG f .e ((txT t).ex k++r)=some (stripT t,r)
  u:exprB t=true→t.kind≠32→∀ k r f,folB r=true→10*count t≤f+3→pG f .u ((txT t).ex k++r)=some (stripT t,r)
  s:exprB t=true→t.kind≠31→t.kind≠32→t.kind≠33→∀ k r f,nb r=true→10*count t≤f+4→∃ f',f+4≤f'+10*count t∧pG f .u ((txT t).ex k++r)=pG f' (.s (stripT t)) r
  b:blockB t=true→∀ k r f,10*count t≤f+2→pG f .b (((txT t).ls (k+1)++tabsL k)++([125]++r))=some (stripT t,r)
section
variable {p:Md→Bs→Option (Nd×Bs)}
end
def KdX(lo:Nat)(X:List Nat)(w:World)(ks:List Nd)(v:Value):Prop:=Kd w (fun k=>(lo≤k∧k∉X)∧NdR w k) ks v
section
variable {lo lo' n0 j b:Nat} {X:List Nat} {w w':World} {ks:List Nd} {v:Value}
theorem KdN.x(h:KdN lo w ks v)(hX:∀ j∈X,j<lo):KdX lo X w ks v:=Kd.mono h fun k hk _=>⟨⟨hk.1,fun hm=>by have:=hX k hm;omega⟩,hk.2⟩
theorem KdX.kdN(h:KdX lo X w ks v)(hl:lo'≤lo):KdN lo' w ks v:=Kd.mono h fun k hk _=>⟨Nat.le_trans hl hk.1.1,hk.2⟩
theorem KdX.grow(h:KdX lo X w ks v)(g:G w w'):KdX lo X w' ks v:=Zma h (fun k hk _=>⟨hk.1,hk.2.grow g⟩) fun k hk hlt=>g.block hlt
theorem KdX.gt(h:KdX lo X w ks v)(g:GT mutR n0 w w'):KdX lo X w' ks v:=Zma h (fun k hk _=>⟨hk.1,hk.2.gt g rfl⟩) fun k hk hlt=>g.block k hlt (.inr (hk.2.ntyr rfl))
theorem KdX.keep(h:KdX lo X w ks v)(hg:w.grownBy w' (some j))(hj:j<lo∨j∈X):KdX lo X w' ks v:=by
 have hne:∀ k,(lo≤k∧k∉X)→k≠j:=fun k hk e=>by
  subst e;rcases hj with hj|hj;omega;exact hk.2 hj
 have hs:∀ k,(lo≤k∧k∉X)→k<w.heap.size→w'.heap[k]? = w.heap[k]?:=fun k hk hlt=>hg.block k hlt fun e=>by injection e with e;exact hne k hk e
 exact Zma h (fun k hk hlt=>⟨hk.1,hk.2.same (hs k hk.1 hlt)⟩) fun k hk hlt=>hs k hk.1 hlt
theorem KdX.new{e:TypeId}{l:List Value}(h:KdX lo X w ks v)(N:New w w' b e l):KdX lo (b::X) w' ks v:=by
 have:=N.at_
 exact Zma h (fun k hk hlt=>⟨⟨hk.1.1,fun hm=>by
  rcases List.mem_cons.1 hm with e|e;omega;exact hk.1.2 e⟩,hk.2.grow N.g⟩) fun k hk hlt=>N.g.block hlt
theorem KdX.keepb{e:TypeId}{l:List Value}(h:KdX lo X w ks v)(hg:w.grownBy w' (some j))(hB:Blk w j e l)(he:Nat.beq e Ys=false):KdX lo X w' ks v:=by
 have hne:∀ k,NdR w k→k≠j:=fun k ⟨cs,fr,hk⟩ q=>by
  subst q;unfold Blk at hB;rw [hB] at hk;injection hk with hk;injection hk with _ hk;subst hk;simp at he
 exact Zma h (fun k hk hlt=>⟨hk.1,hk.2.same (hg.block k hlt fun e=>by injection e with e;exact hne k hk.2 e)⟩) fun k hk hlt=>hg.block k hlt fun e=>by injection e with e;exact hne k hk.2 e
end
theorem OwnN.keept{Y:List Nat}{lo:Nat}{w w':World}{ks:List Nd}{s:Value}{j:Nat}{e:TypeId}{l:List Value}(h:OwnN Y lo w ks s)(hg:w.grownBy w' (some j))(hB:Blk w j e l)(he:Nat.beq e Ys=false):OwnN Y lo w' ks s:=by
 have hne:∀ k,NdR w k→k≠j:=fun k ⟨cs,fr,hk⟩ q=>by
  subst q;unfold Blk at hB;rw [hB] at hk;injection hk with hk;injection hk with _ hk;subst hk;simp at he
 have hnd:=h.nd;exact Xlb h (fun k hk hlt=>⟨hk.1,hk.2.same (hg.block k hlt fun e=>by injection e with e;exact hne k hk.2 e)⟩) (fun k hk hlt=>hg.block k hlt fun e=>by injection e with e;exact hne k hk.2 e) fun xs h'=>Xw h' hg (.inr fun e=>hne j (hnd j e) rfl)
theorem Qg{lo m0:Nat}{X Y:List Nat}{w:World}{t:Nd}{v s:Value}(h:KdX lo X w t.kids v)(hm:m0≤lo)(hY:∀ j∈Y,j∈X∨j<lo)(hs:∀ j,s.ownBlock=some j→j∈X∨j<lo):KRow w (fun k=>(Dx m0 Y k∧NdR w k)∧some k≠s.ownBlock) [t] (ndCells t v):=by
 refine Yc (Kd.mono h fun k hk _=>⟨⟨⟨Nat.le_trans hm hk.1.1,fun hy=>?_⟩,hk.2⟩,fun e=>?_⟩);rcases hY k hy with q|q;exact hk.1.2 q;have:=hk.1.1;omega;rcases hs k e.symm with q|q;exact hk.1.2 q;have:=hk.1.1;omega
@[reducible] def gtR(n0:Nat):RelX:=⟨fun w w'=>GT mutR n0 w w',GT.refl mutR n0,fun h k=>GT.trans h k⟩
theorem Jba{w:World}{D:Nat→Prop}{t:Nd}{p:Option Addr}{c:Nat}(hk:Kd w D t.kids (.slice p t.kids.length c)){i:Nat}(h:i<t.kids.length):D (pb p):=by
 obtain ⟨p',c',hpe,_,hks⟩:=hk;injection hpe with hpe _ hce;subst hpe hce;obtain ⟨b2,o2,rfl,hD,_⟩:=hks (by omega);exact hD
theorem Zr{t:Nd}{lo:Nat}{r v:Value}{w:World}(e:r=ndV t v)(h:KdN lo w t.kids v):RetN t lo r w:=e▸Znf h
def CkM'(M:Nat)(F:Nd)(fn:FuncId)(t:Nd)(X:CSt→Nd×CSt):Prop:=∀ {n0 b:Nat} {S:CSt} {w:World} {v:Value} {N:Nat},Chk F n0 b S w→Kd w (fun k=>k<n0) t.kids v→Bd S N→N+count t≤M→
 Ret PP fn #[.pointer (some ⟨b,0,none⟩),ndV t v] w fun r w'=>RetN (X S).1 w.heap.size r w'∧Chk F n0 b (X S).2 w'∧GT mutR n0 w w'
abbrev CkC:=CkM' 1000000
theorem CkC.to{M:Nat}{F:Nd}{fn:FuncId}{t:Nd}{X:CSt→Nd×CSt}(H:CkM' M F fn t X){n0 b:Nat}{S:CSt}{w:World}{v:Value}{N m0:Nat}(Z:List Nat)(h:Chk F n0 b S w)(hk:Kd w (fun k=>k<n0) t.kids v)(hb:Bd S N)(hc:N+count t≤M)(hZ:∀ j∈Z,j<w.heap.size)(hm:m0≤w.heap.size) :
 Ret PP fn #[.pointer (some ⟨b,0,none⟩),ndV t v] w fun r w'=>(∃ p c,r=ndV (X S).1 (.slice p (X S).1.kids.length c)∧m0≤w.heap.size∧KdX w.heap.size Z w' (X S).1.kids (.slice p (X S).1.kids.length c))∧Chk F n0 b (X S).2 w'∧GT mutR n0 w w' :=
 (H h hk hb hc).mono fun r w' hr=>by
 obtain ⟨⟨p,c,e,k⟩,h1,h2⟩:=hr;exact ⟨⟨p,c,e,hm,KdN.x k hZ⟩,h1,h2⟩
def CkM(F:Nd)(t:Nd):Prop:=∀ {n0 b:Nat} {S:CSt} {w:World} {v:Value} {N:Nat},Chk F n0 b S w→Kd w (fun k=>k<n0) t.kids v→Bd S N→N+count t≤1000000→
 Ret PP Uga #[.pointer (some ⟨b,0,none⟩),ndV t v] w fun r w'=>(∃ u,r = .tuple #[u,.bool ((ckT F t).mem S).1.2]∧RetN ((ckT F t).mem S).1.1 w.heap.size u w')∧Chk F n0 b ((ckT F t).mem S).2 w'∧GT mutR n0 w w'
def CkR(F:Nd)(t:Nd):Prop:=∀ {n0 b:Nat} {S:CSt} {w:World} {v:Value} {N:Nat},Chk F n0 b S w→Kd w (fun k=>k<n0) t.kids v→Bd S N→N+count t≤1000000→
 Ret PP Wza #[.pointer (some ⟨b,0,none⟩),ndV t v] w fun r w'=>(∃ u,r = .tuple #[u,.bool ((ckT F t).rcv S).2]∧RetN ((ckT F t).rcv S).1 w.heap.size u w')∧G w w'
def RowT(w:World)(l:List Ty)(v:Value):Prop:=∃ p c,v = .slice p l.length c∧(0<l.length→∃ b o cs fr,p=some ⟨b,o,none⟩∧w.heap[b]? = some (.cells cs Je fr)∧RowAt w b o (l.flatMap tyCells))
def CkL(F:Nd)(t:Nd):Prop:=∀ {n0 b:Nat} {S:CSt} {w:World} {v:Value} {N:Nat},Chk F n0 b S w→Kd w (fun k=>k<n0) t.kids v→Bd S N→N+count t≤1000000→
 Ret PP Uja #[.pointer (some ⟨b,0,none⟩),ndV t v] w fun r w'=>(∃ u l,r = .tuple #[u,l,tyV ((ckT F t).cal S).1.2.2]∧RetN ((ckT F t).cal S).1.1 w.heap.size u w'∧RowT w' ((ckT F t).cal S).1.2.1 l)∧Chk F n0 b ((ckT F t).cal S).2 w'∧GT mutR n0 w w'
structure CkOk (F t:Nd):Prop where
  ex:exprB t=true→CkC F Ux t (ckT F t).ex
  st:stmtB t=true→CkC F Yba t (ckT F t).st
  blk:blockB t=true→CkC F Zva t (ckT F t).blk
  sts:blockB t=true→CkM' 1000001 F Jq t (ckT F t).sts
  ifs:ifB t=true→CkC F Zpa t (ckT F t).ifs
  mem:exprB t=true→t.kind=28→CkM F t
  rcv:exprB t=true→CkR F t
  cal:exprB t=true→CkL F t
theorem Qdd(F k:Nd)(S:CSt):Stp (count k) S (condR k (ckT F k) S).2:=by
 unfold condR;cases decide (k.kind=9);exact ((Xqb F k).ex S).failu _ _ _;exact (Stp.refl S).mono (Nat.zero_le _)
theorem Wve{F t:Nd}(hx:t.kind≠9→CkC F Ux t (ckT F t).ex):CkC F Zxa t (condR t (ckT F t)):=by
 intro n0 b S w v N h hk0 hb hcn;obtain ⟨p,c,rfl,_⟩:=id hk0;have hlt:=h.lt;have g:=GT.refl mutR n0 w;refine WK 20 [0,1] Jma ?_;refine BM fun b3 _ ga _ g E=>?_;have h:=Ui h;have hk0:=Ui hk0;refine AN fun b4 _ ga _ g E=>?_;have h:=Ui h;have hk0:=Ui hk0;refine IF (fun h1=>?_) fun h1=>?_;replace h1:t.kind=9:=of_decide_eq_true h1;refine AU ?_;refine CL (Vn t _ _ _) ?_;rintro _ _ ⟨rfl,ga⟩;refine RC fun g E=>?_;have h:=Uk h;refine AS fun _ ga Ca g E=>?_;have h:=Ub h;refine RTN ?_;have e:condR t (ckT F t) S=(clnT t,S):=by unfold condR;rw [Ywh h1];rfl
 rw [e];exact ⟨Zr (t:=clnT t) rfl (Wv _ _),h,g⟩;replace h1:t.kind≠9:=of_decide_eq_false h1;refine AU ?_;refine CL (CkC.to (hx h1) [b3,b4] h hk0 hb hcn (E.ltm (by simp [selB])) g.size) ?_;rintro _ _ ⟨⟨p13,c13,rfl,q13,k13⟩,h,ga⟩;refine RC fun g E=>?_;refine AN fun _ _ ga _ g E=>?_;have k13:=Uj k13;have h:=Ui h;refine AS fun _ ga Ca g E=>?_;have h:=Ub h;have k13:=Ua k13;refine AU ?_;refine CL (Xba ((ckT F t).ex S).1 _ _ 2 t.pos h) ?_;rintro _ _ ⟨rfl,h,ga⟩;refine RC fun g E=>?_;have k13:=Ul k13;refine AS fun _ ga Ca g E=>?_;have h:=Ub h;have k13:=Ua k13;refine RTN ?_;have e:condR t (ckT F t) S=(((ckT F t).ex S).1,wantS ((ckT F t).ex S).1 2 t.pos ((ckT F t).ex S).2):=by unfold condR;rw [Yvh h1];rfl
 rw [e];exact ⟨Zr rfl (k13.kdN q13),h,g⟩
theorem Wsf{F t:Nd}(hx:CkM' 1000001 F Jq t (ckT F t).sts):CkC F Zva t (ckT F t).blk:=by
 intro n0 b S w v N h hk0 hb hcn;have e:(ckT F t).blk S=(((ckT F t).sts (openS S)).1,shutS ((ckT F t).sts (openS S)).2):=by rw [Yva];rfl
 rw [e];obtain ⟨p,c,rfl,_⟩:=id hk0;have hlt:=h.lt;have hsc:=hb.sc;have ct:=Un t;have hbo:Bd (openS S) (N+1):=⟨by have:=hb.vl;show S.vars.length≤_;omega,by have:=hb.nl;show S.next.length≤_;omega,fun k hk=>by have:=hb.nx k hk;omega,hb.lv,by show S.scope+1≤_;omega,fun v hv=>by have:=hb.vs v hv;omega⟩;have hs:=(Xqb F t).sts (openS S);have hbs:=hs.bd _ hbo;have hs1:1≤((ckT F t).sts (openS S)).2.scope:=by rw [hs.scope];exact Nat.le_add_left 1 _
 have hs2:=hbs.sc;have hs3:=hbs.vl;have hs4:((ckT F t).sts (openS S)).2.scope≤100000000:=by omega
 have hs5:((ckT F t).sts (openS S)).2.vars.length≤100000000:=by omega
 have g:=GT.refl mutR n0 w;refine WK 14 [0,1] Wjb ?_;refine BM fun b3 _ ga _ g E=>?_;have h:=Ui h;have hk0:=Ui hk0;refine AN fun b4 _ ga _ g E=>?_;have h:=Ui h;have hk0:=Ui hk0;refine AU ?_;refine CL (Wue h (by omega)) ?_;rintro _ _ ⟨rfl,h,ga⟩;refine RC fun g E=>?_;have hk0:=Um hk0;refine AU ?_;refine CL (CkC.to (hx) [b3,b4] h hk0 hbo (by omega) (E.ltm (by simp [selB])) g.size) ?_;rintro _ _ ⟨⟨p10,c10,rfl,q10,k10⟩,h,ga⟩;refine RC fun g E=>?_;refine AN fun _ _ ga _ g E=>?_;have k10:=Uj k10;have h:=Ui h;refine AS fun _ ga Ca g E=>?_;have h:=Ub h;have k10:=Ua k10;refine AU ?_;refine CL (Vic h hs4 hs1 hs5) ?_;rintro _ _ ⟨rfl,h,ga⟩;refine RC fun g E=>?_;have k10:=Ul k10;refine AS fun _ ga Ca g E=>?_;have h:=Ub h;have k10:=Ua k10;refine RTN ?_;exact ⟨Zr rfl (k10.kdN q10),h,g⟩
theorem Jtg{F t:Nd}(K:∀ i,i<t.kids.length→CkOk F (Zb t i))(hx:ifB t=true):CkC F Zpa t (ckT F t).ifs:=by
 intro n0 b S w v N h hk0 hb hcn;obtain ⟨hl,he,hb1,hh2⟩:=sh18 hx
 have e:(ckT F t).ifs S=ifR t (fun i=>ckT F (Zb t i)) S:=by
  rw [Yva];show ifR t (ckX F t) S=_;unfold ifR;rw [Vt (show 0<t.kids.length by omega),Vt (show 1<t.kids.length by omega),Vt (show 2<t.kids.length by omega)]
 rw [e];obtain ⟨p,c,rfl,_⟩:=id hk0;have hlt:=h.lt;have hc3:=cn3 hl;have c0:=Un (Zb t 0);have C0:CkC F Zxa (Zb t 0) (condR (Zb t 0) (ckT F (Zb t 0))):=Wve (F:=F) (t:=Zb t 0) (fun _=>(K 0 (by omega)).ex he);have Q1:=K 1 (by omega);have Q2:=K 2 (by omega);have hbd1:=(Qdd F (Zb t 0) S).bd _ hb;have hbd2:=((Xqb F (Zb t 1)).blk (condR (Zb t 0) (ckT F (Zb t 0)) S).2).bd _ hbd1;have g:=GT.refl mutR n0 w;refine WK 55 [0,1] Ytb ?_;refine BM fun b3 _ ga _ g E=>?_;have h:=Ui h;have hk0:=Ui hk0;refine AN fun b4 _ ga _ g E=>?_;have h:=Ui h;have hk0:=Ui hk0;refine AU ?_;refine CL (Vn t _ _ _) ?_;rintro _ _ ⟨rfl,ga⟩;refine RC fun g E=>?_;have h:=Uk h;have hk0:=Uk hk0;refine AN fun b5 _ ga _ g E=>?_;have h:=Ui h;have hk0:=Ui hk0;refine AS fun _ ga Ca g E=>?_;have h:=Ub h;have hk0:=Ud hk0;obtain ⟨hpe,p_14,c_14,hcell,hkid⟩:=Yk hk0 (i:=0) (by omega);refine AU ?_;refine CL (CkC.to (C0) [b3,b4,b5] h hkid hb (by omega) (E.ltm (by simp [selB])) g.size) ?_;rintro _ _ ⟨⟨p16,c16,rfl,q16,k16⟩,h,ga⟩;refine RC fun g E=>?_;have hk0:=Um hk0;refine AN fun b6 _ ga _ g E=>?_;have k16:=Uj k16;have h:=Ui h;have hk0:=Ui hk0;refine AS fun _ ga Ca g E=>?_;have h:=Ub h;have hk0:=Ud hk0;have k16:=Ua k16;obtain ⟨hpe,p_20,c_20,hcell,hkid⟩:=Yk hk0 (i:=1) (by omega);refine AU ?_;refine CL (CkC.to (Q1.blk hb1) [b3,b4,b5,b6] h hkid hbd1 (by omega) (E.ltm (by simp [selB])) g.size) ?_;rintro _ _ ⟨⟨p22,c22,rfl,q22,k22⟩,h,ga⟩;refine RC fun g E=>?_;have hk0:=Um hk0;have k16:=Ul k16;refine AN fun b7 _ ga _ g E=>?_;have k16:=Uj k16;have k22:=Uj k22;have h:=Ui h;have hk0:=Ui hk0;refine AS fun _ ga Ca g E=>?_;have h:=Ub h;have hk0:=Ud hk0;have k16:=Ua k16;have k22:=Ua k22
 obtain ⟨hpe,p_25,c_25,hcell,hkid⟩:=Yk hk0 (i:=2) (by omega);refine AU ?_;refine CL (Vn (Zb t 2) _ _ _) ?_;rintro _ _ ⟨rfl,ga⟩;refine RC fun g E=>?_;have h:=Uk h;have hk0:=Uk hk0;have k16:=Uk k16;have k22:=Uk k22;refine AN fun b8 _ ga _ g E=>?_;have k16:=Uj k16;have k22:=Uj k22;have h:=Ui h;have hk0:=Ui hk0;refine AS fun _ ga Ca g E=>?_;have h:=Ub h;have hk0:=Ud hk0;have k16:=Ua k16;have k22:=Ua k22;obtain ⟨hpe,p_30,c_30,hcell,hkid⟩:=Yk hk0 (i:=2) (by omega);refine IF (fun h1=>?_) fun h1=>?_;replace h1:(Zb t 2).kind=10:=of_decide_eq_true h1;have hb2:blockB (Zb t 2)=true:=hh2.elim id fun h=>h.elim (fun h=>absurd (of_decide_eq_true (Bool.and_eq_true_iff.1 h).1) (by omega)) fun h=>absurd (Xya h).1 (by omega);obtain ⟨hpe,p_38,c_38,hcell,hkid⟩:=Yk hk0 (i:=2) (by omega);refine AU ?_;refine CL (CkC.to (Q2.blk hb2) [b3,b4,b5,b6,b7,b8] h hkid hbd2 (by omega) (E.ltm (by simp [selB])) g.size) ?_;rintro _ _ ⟨⟨p40,c40,rfl,q40,k40⟩,h,ga⟩;refine RC fun g E=>?_;have k16:=Ul k16;have k22:=Ul k22;refine AS fun _ ga Ca g E=>?_;have h:=Ub h;have k16:=Ua k16;have k22:=Ua k22;have k40:=Ua k40;refine CN fun _ _ ga l52 g E=>?_;have k16:=Uj k16;have k22:=Uj k22;have k40:=Uj k40;have h:=Ui h;refine AS fun _ ga Ca g E=>?_;have h:=Ub h;have k16:=Ua k16;have k22:=Ua k22;have k40:=Ua k40;refine AS fun _ ga Ca g E=>?_;have h:=Ub h;have k16:=Ua k16;have k22:=Ua k22;have k40:=Ua k40;refine RTN ?_;unfold ifR;dsimp only;rw [Ywh h1];exact ⟨Zr (t:=annT t [_,_,_] ty0) rfl (Xk (ks:=[_,_,_]) ⟨l52,Xa E.g0⟩ E.g0.row (Xh (k16.kdN q16) (Xh (k22.kdN q22) (Yc (k40.kdN q40)))) (Nat.le_refl _)),h,g⟩;replace h1:(Zb t 2).kind≠10:=of_decide_eq_false h1
 refine IF (fun h2=>?_) fun h2=>?_;replace h2:(Zb t 2).kind=18:=of_decide_eq_true h2;have hi2:ifB (Zb t 2)=true:=hh2.elim (fun h=>absurd (Zeb h) (by omega)) fun h=>h.elim id fun h=>absurd (Xya h).1 (by omega);obtain ⟨hpe,p_46,c_46,hcell,hkid⟩:=Yk hk0 (i:=2) (by omega);refine AU ?_;refine CL (CkC.to (Q2.ifs hi2) [b3,b4,b5,b6,b7,b8] h hkid hbd2 (by omega) (E.ltm (by simp [selB])) g.size) ?_;rintro _ _ ⟨⟨p48,c48,rfl,q48,k48⟩,h,ga⟩;refine RC fun g E=>?_;have k16:=Ul k16;have k22:=Ul k22;refine AS fun _ ga Ca g E=>?_;have h:=Ub h;have k16:=Ua k16;have k22:=Ua k22;have k48:=Ua k48;refine CN fun _ _ ga l52 g E=>?_;have k16:=Uj k16;have k22:=Uj k22;have k48:=Uj k48;have h:=Ui h;refine AS fun _ ga Ca g E=>?_;have h:=Ub h;have k16:=Ua k16;have k22:=Ua k22;have k48:=Ua k48;refine AS fun _ ga Ca g E=>?_;have h:=Ub h;have k16:=Ua k16;have k22:=Ua k22;have k48:=Ua k48;refine RTN ?_;unfold ifR;dsimp only;rw [Yvh h1,Ywh h2];exact ⟨Zr (t:=annT t [_,_,_] ty0) rfl (Xk (ks:=[_,_,_]) ⟨l52,Xa E.g0⟩ E.g0.row (Xh (k16.kdN q16) (Xh (k22.kdN q22) (Yc (k48.kdN q48)))) (Nat.le_refl _)),h,g⟩;replace h2:(Zb t 2).kind≠18:=of_decide_eq_false h2;refine CN fun _ _ ga l52 g E=>?_;have k16:=Uj k16;have k22:=Uj k22;have h:=Ui h;refine AS fun _ ga Ca g E=>?_;have h:=Ub h;have k16:=Ua k16;have k22:=Ua k22;refine AS fun _ ga Ca g E=>?_;have h:=Ub h;have k16:=Ua k16;have k22:=Ua k22;refine RTN ?_;unfold ifR;dsimp only;rw [Yvh h1,Yvh h2];exact ⟨Zr (t:=annT t [_,_,clnT (Zb t 2)] ty0) rfl (Xk (ks:=[_,_,clnT (Zb t 2)]) ⟨l52,Xa E.g0⟩ E.g0.row (Xh (k16.kdN q16) (Xh (k22.kdN q22) (Yc (Wv _ _)))) (Nat.le_refl _)),h,g⟩
set_option maxHeartbeats 1000000
def ckY(F t:Nd)(i:Nat):Ck:=ckT F (Zb t i)
def lvB(a:Nd):Bool:=((decide (a.kind=27) && !decide (a.ref=3)) || decide (a.kind=28)) || decide (a.kind=29)
theorem Wwe{F t:Nd}(K:∀ i,i<t.kids.length→CkOk F (Zb t i))(hk12:t.kind=12)(hx:stmtB t=true):CkC F Vtb t (asgR t (ckY F t)):=by
 intro n0 b S w v N h hk0 hb hcn;obtain ⟨hl,he,he1⟩:=sh12 hk12 hx;obtain ⟨p,c,rfl,_⟩:=id hk0;have hlt:=h.lt;have hc2:=cn2 hl;have Q0:=K 0 (by omega);have Q1:=K 1 (by omega);have hbd1:=((((Xqb F (Zb t 0)).ex S).failu (lvB ((ckT F (Zb t 0)).ex S).1) (Zb t 0).pos 7)).bd _ hb;have g:=GT.refl mutR n0 w;refine WK 68 [0,1] Yub ?_;refine BM fun b3 _ ga _ g E=>?_;have h:=Ui h;have hk0:=Ui hk0;refine AN fun b4 _ ga _ g E=>?_;have h:=Ui h;have hk0:=Ui hk0;refine AU ?_;refine CL (Vn t _ _ _) ?_;rintro _ _ ⟨rfl,ga⟩;refine RC fun g E=>?_;have h:=Uk h;have hk0:=Uk hk0;refine AN fun b5 _ ga _ g E=>?_;have h:=Ui h;have hk0:=Ui hk0;refine AS fun _ ga Ca g E=>?_;have h:=Ub h;have hk0:=Ud hk0;obtain ⟨hpe,p_14,c_14,hcell,hkid⟩:=Yk hk0 (i:=0) (by omega);refine AU ?_;refine CL (CkC.to (Q0.ex he) [b3,b4,b5] h hkid hb (by omega) (E.ltm (by simp [selB])) g.size) ?_;rintro _ _ ⟨⟨p16,c16,rfl,q16,k16⟩,h,ga⟩;refine RC fun g E=>?_;have hk0:=Um hk0;refine AN fun b6 _ ga _ g E=>?_;have k16:=Uj k16;have h:=Ui h;have hk0:=Ui hk0;refine AS fun _ ga Ca g E=>?_;have h:=Ub h;have hk0:=Ud hk0;have k16:=Ua k16;refine IF (fun h1=>?_) fun h1=>?_
 have hq:lvB ((ckT F (Zb t 0)).ex S).1=false:=by
  unfold lvB;revert h1;cases decide (((ckT F (Zb t 0)).ex S).1.kind=27) <;> cases decide (((ckT F (Zb t 0)).ex S).1.ref=3) <;> cases decide (((ckT F (Zb t 0)).ex S).1.kind=28) <;> cases decide (((ckT F (Zb t 0)).ex S).1.kind=29) <;> decide
 obtain ⟨hpe,p_40,c_40,hcell,hkid⟩:=Yk hk0 (i:=0) (by omega);refine AU ?_;refine CL (Wh (Zb t 0).pos 7 h) ?_;rintro _ _ ⟨rfl,h,ga⟩;refine RC fun g E=>?_;have hk0:=Um hk0;have k16:=Ul k16;have hT:failS (Zb t 0).pos 7 ((ckT F (Zb t 0)).ex S).2=(failU (lvB ((ckT F (Zb t 0)).ex S).1) (Zb t 0).pos 7 ((ckT F (Zb t 0)).ex S).2):=by rw [hq];rfl
 rw [hT] at h;obtain ⟨hpe,p_47,c_47,hcell,hkid⟩:=Yk hk0 (i:=1) (by omega);refine AU ?_;refine CL (CkC.to (Q1.ex he1) [b3,b4,b5,b6] h hkid hbd1 (by omega) (E.ltm (by simp [selB])) g.size) ?_;rintro _ _ ⟨⟨p49,c49,rfl,q49,k49⟩,h,ga⟩;refine RC fun g E=>?_;have hk0:=Um hk0;have k16:=Ul k16;refine AN fun _ _ ga l8 g E=>?_;have k16:=Uj k16;have k49:=Uj k49;have h:=Ui h;have hk0:=Ui hk0;refine AS fun _ ga Ca g E=>?_;have h:=Ub h;have hk0:=Ud hk0;have k16:=Ua k16;have k49:=Ua k49;refine AU ?_;refine CP (Wwa _ _ _) (fun w54 g54=>?_);have g:=gtg g g54;replace E:=E.grow g54;have h:=h.grow (g54);have hk0:=hk0.grow (g54);have k16:=k16.grow (g54);have k49:=k49.grow (g54);refine IF (fun h2=>?_) fun h2=>?_;have hr:Vk ((ckT F (Zb t 0)).ex S).1.ty ((ckT F (Zb t 1)).ex (failU (lvB ((ckT F (Zb t 0)).ex S).1) (Zb t 0).pos 7 ((ckT F (Zb t 0)).ex S).2)).1.ty=false:=by simpa using h2
 obtain ⟨hpe,p_59,c_59,hcell,hkid⟩:=Yk hk0 (i:=1) (by omega);refine AU ?_;refine CL (Wh (Zb t 1).pos 7 h) ?_;rintro _ _ ⟨rfl,h,ga⟩;refine RC fun g E=>?_;have k16:=Ul k16;have k49:=Ul k49;refine CN fun _ _ ga l65 g E=>?_;have k16:=Uj k16;have k49:=Uj k49;have h:=Ui h;refine AS fun _ ga Ca g E=>?_;have h:=Ub h;have k16:=Ua k16;have k49:=Ua k49;refine AS fun _ ga Ca g E=>?_;have h:=Ub h;have k16:=Ua k16;have k49:=Ua k49;refine RTN ?_;have e:asgR t (ckY F t) S=(annT t [((ckT F (Zb t 0)).ex S).1,((ckT F (Zb t 1)).ex (failU (lvB ((ckT F (Zb t 0)).ex S).1) (Zb t 0).pos 7 ((ckT F (Zb t 0)).ex S).2)).1] ty0,failU (Vk ((ckT F (Zb t 0)).ex S).1.ty ((ckT F (Zb t 1)).ex (failU (lvB ((ckT F (Zb t 0)).ex S).1) (Zb t 0).pos 7 ((ckT F (Zb t 0)).ex S).2)).1.ty) (Zb t 1).pos 7 ((ckT F (Zb t 1)).ex (failU (lvB ((ckT F (Zb t 0)).ex S).1) (Zb t 0).pos 7 ((ckT F (Zb t 0)).ex S).2)).2):=rfl;rw [e,hr];exact ⟨Zr (t:=annT t [_,_] ty0) rfl (Xk (ks:=[_,_]) ⟨l65,Xa E.g0⟩ E.g0.row (Xh (k16.kdN q16) (Yc (k49.kdN q49))) (Nat.le_refl _)),h,g⟩;have hr:Vk ((ckT F (Zb t 0)).ex S).1.ty ((ckT F (Zb t 1)).ex (failU (lvB ((ckT F (Zb t 0)).ex S).1) (Zb t 0).pos 7 ((ckT F (Zb t 0)).ex S).2)).1.ty=true:=by simpa using h2
 refine CN fun _ _ ga l65 g E=>?_;have k16:=Uj k16;have k49:=Uj k49;have h:=Ui h;refine AS fun _ ga Ca g E=>?_;have h:=Ub h;have k16:=Ua k16;have k49:=Ua k49;refine AS fun _ ga Ca g E=>?_;have h:=Ub h;have k16:=Ua k16;have k49:=Ua k49;refine RTN ?_;have e:asgR t (ckY F t) S=(annT t [((ckT F (Zb t 0)).ex S).1,((ckT F (Zb t 1)).ex (failU (lvB ((ckT F (Zb t 0)).ex S).1) (Zb t 0).pos 7 ((ckT F (Zb t 0)).ex S).2)).1] ty0,failU (Vk ((ckT F (Zb t 0)).ex S).1.ty ((ckT F (Zb t 1)).ex (failU (lvB ((ckT F (Zb t 0)).ex S).1) (Zb t 0).pos 7 ((ckT F (Zb t 0)).ex S).2)).1.ty) (Zb t 1).pos 7 ((ckT F (Zb t 1)).ex (failU (lvB ((ckT F (Zb t 0)).ex S).1) (Zb t 0).pos 7 ((ckT F (Zb t 0)).ex S).2)).2):=rfl;rw [e,hr];exact ⟨Zr (t:=annT t [_,_] ty0) rfl (Xk (ks:=[_,_]) ⟨l65,Xa E.g0⟩ E.g0.row (Xh (k16.kdN q16) (Yc (k49.kdN q49))) (Nat.le_refl _)),h,g⟩
 have hq:lvB ((ckT F (Zb t 0)).ex S).1=true:=by
  unfold lvB;revert h1;cases decide (((ckT F (Zb t 0)).ex S).1.kind=27) <;> cases decide (((ckT F (Zb t 0)).ex S).1.ref=3) <;> cases decide (((ckT F (Zb t 0)).ex S).1.kind=28) <;> cases decide (((ckT F (Zb t 0)).ex S).1.kind=29) <;> decide
 have hT:((ckT F (Zb t 0)).ex S).2=(failU (lvB ((ckT F (Zb t 0)).ex S).1) (Zb t 0).pos 7 ((ckT F (Zb t 0)).ex S).2):=by rw [hq];rfl
 rw [hT] at h;obtain ⟨hpe,p_47,c_47,hcell,hkid⟩:=Yk hk0 (i:=1) (by omega);refine AU ?_;refine CL (CkC.to (Q1.ex he1) [b3,b4,b5,b6] h hkid hbd1 (by omega) (E.ltm (by simp [selB])) g.size) ?_;rintro _ _ ⟨⟨p49,c49,rfl,q49,k49⟩,h,ga⟩;refine RC fun g E=>?_;have hk0:=Um hk0;have k16:=Ul k16;refine AN fun _ _ ga _ g E=>?_;have k16:=Uj k16;have k49:=Uj k49;have h:=Ui h;have hk0:=Ui hk0;refine AS fun _ ga Ca g E=>?_;have h:=Ub h;have hk0:=Ud hk0;have k16:=Ua k16;have k49:=Ua k49;refine AU ?_;refine CP (Wwa _ _ _) (fun w54 g54=>?_);have g:=gtg g g54;replace E:=E.grow g54;have h:=h.grow (g54);have hk0:=hk0.grow (g54);have k16:=k16.grow (g54);have k49:=k49.grow (g54);refine IF (fun h3=>?_) fun h3=>?_;have hr:Vk ((ckT F (Zb t 0)).ex S).1.ty ((ckT F (Zb t 1)).ex (failU (lvB ((ckT F (Zb t 0)).ex S).1) (Zb t 0).pos 7 ((ckT F (Zb t 0)).ex S).2)).1.ty=false:=by simpa using h3
 obtain ⟨hpe,p_59,c_59,hcell,hkid⟩:=Yk hk0 (i:=1) (by omega);refine AU ?_;refine CL (Wh (Zb t 1).pos 7 h) ?_;rintro _ _ ⟨rfl,h,ga⟩;refine RC fun g E=>?_;have k16:=Ul k16;have k49:=Ul k49;refine CN fun _ _ ga l65 g E=>?_;have k16:=Uj k16;have k49:=Uj k49;have h:=Ui h;refine AS fun _ ga Ca g E=>?_;have h:=Ub h;have k16:=Ua k16;have k49:=Ua k49;refine AS fun _ ga Ca g E=>?_;have h:=Ub h;have k16:=Ua k16;have k49:=Ua k49;refine RTN ?_;have e:asgR t (ckY F t) S=(annT t [((ckT F (Zb t 0)).ex S).1,((ckT F (Zb t 1)).ex (failU (lvB ((ckT F (Zb t 0)).ex S).1) (Zb t 0).pos 7 ((ckT F (Zb t 0)).ex S).2)).1] ty0,failU (Vk ((ckT F (Zb t 0)).ex S).1.ty ((ckT F (Zb t 1)).ex (failU (lvB ((ckT F (Zb t 0)).ex S).1) (Zb t 0).pos 7 ((ckT F (Zb t 0)).ex S).2)).1.ty) (Zb t 1).pos 7 ((ckT F (Zb t 1)).ex (failU (lvB ((ckT F (Zb t 0)).ex S).1) (Zb t 0).pos 7 ((ckT F (Zb t 0)).ex S).2)).2):=rfl;rw [e,hr];exact ⟨Zr (t:=annT t [_,_] ty0) rfl (Xk (ks:=[_,_]) ⟨l65,Xa E.g0⟩ E.g0.row (Xh (k16.kdN q16) (Yc (k49.kdN q49))) (Nat.le_refl _)),h,g⟩;have hr:Vk ((ckT F (Zb t 0)).ex S).1.ty ((ckT F (Zb t 1)).ex (failU (lvB ((ckT F (Zb t 0)).ex S).1) (Zb t 0).pos 7 ((ckT F (Zb t 0)).ex S).2)).1.ty=true:=by simpa using h3
 refine CN fun _ _ ga l65 g E=>?_;have k16:=Uj k16;have k49:=Uj k49;have h:=Ui h;refine AS fun _ ga Ca g E=>?_;have h:=Ub h;have k16:=Ua k16;have k49:=Ua k49;refine AS fun _ ga Ca g E=>?_;have h:=Ub h;have k16:=Ua k16;have k49:=Ua k49;refine RTN ?_;have e:asgR t (ckY F t) S=(annT t [((ckT F (Zb t 0)).ex S).1,((ckT F (Zb t 1)).ex (failU (lvB ((ckT F (Zb t 0)).ex S).1) (Zb t 0).pos 7 ((ckT F (Zb t 0)).ex S).2)).1] ty0,failU (Vk ((ckT F (Zb t 0)).ex S).1.ty ((ckT F (Zb t 1)).ex (failU (lvB ((ckT F (Zb t 0)).ex S).1) (Zb t 0).pos 7 ((ckT F (Zb t 0)).ex S).2)).1.ty) (Zb t 1).pos 7 ((ckT F (Zb t 1)).ex (failU (lvB ((ckT F (Zb t 0)).ex S).1) (Zb t 0).pos 7 ((ckT F (Zb t 0)).ex S).2)).2):=rfl;rw [e,hr];exact ⟨Zr (t:=annT t [_,_] ty0) rfl (Xk (ks:=[_,_]) ⟨l65,Xa E.g0⟩ E.g0.row (Xh (k16.kdN q16) (Yc (k49.kdN q49))) (Nat.le_refl _)),h,g⟩
theorem Jxf{t:Nd}(hx:exprB t=true)(h:t.kind≠24∧t.kind≠25∧t.kind≠26∧t.kind≠27∧t.kind≠34∧t.kind≠28∧t.kind≠30∧t.kind≠38):1≤t.kids.length∧exprB (Zb t 0)=true:=by
 rcases Jwf hx with k|k|k|k|k|k|k|k|k|k|k|k|k|k|k;exact absurd k h.1;exact absurd k h.2.1;exact absurd k h.2.2.1;exact absurd k h.2.2.2.1;exact absurd k h.2.2.2.2.1;exact absurd k h.2.2.2.2.2.1;obtain ⟨q,r,_⟩:=sh29 k hx;exact ⟨by omega,r⟩;exact absurd k h.2.2.2.2.2.2.1;obtain ⟨_,q,r⟩:=sh31 k hx;exact ⟨by omega,r⟩;obtain ⟨q,r⟩:=sh33 k hx;exact ⟨by omega,r⟩;obtain ⟨_,q,r,_⟩:=sh32 k hx;exact ⟨by omega,r⟩;obtain ⟨q,r⟩:=sh35 k hx;exact ⟨by omega,r⟩;obtain ⟨q,r⟩:=sh36 k hx;exact ⟨by omega,r⟩;obtain ⟨q,r⟩:=sh37 k hx;exact ⟨by omega,r⟩;exact absurd k h.2.2.2.2.2.2.2
theorem Jug{F t:Nd}(K:∀ i,i<t.kids.length→CkOk F (Zb t i))(hx:exprB t=true)(hk:t.kind≠24∧t.kind≠25∧t.kind≠26∧t.kind≠27∧t.kind≠34∧t.kind≠28∧t.kind≠30∧t.kind≠38):CkC F Yfb t (opR t (ckY F t)):=by
 intro n0 b S w v N h hk0 hb hcn;obtain ⟨hl,he⟩:=Jxf hx hk;obtain ⟨p,c,rfl,_⟩:=id hk0;have hlt:=h.lt;have hc0:=Zsa (t:=t) (i:=0) (by omega);rw [← Wg (show 0<t.kids.length by omega)] at hc0;have Q0:=K 0 (by omega);have hbd1:=((Xqb F (Zb t 0)).ex S).bd _ hb;have g:=GT.refl mutR n0 w;refine WK 151 [0,1] Jpa ?_;refine BM fun b3 _ ga _ g E=>?_;have h:=Ui h;have hk0:=Ui hk0;refine AN fun b4 _ ga _ g E=>?_;have h:=Ui h;have hk0:=Ui hk0;refine AU ?_;refine CL (Vn t _ _ _) ?_;rintro _ _ ⟨rfl,ga⟩;refine RC fun g E=>?_;have h:=Uk h;have hk0:=Uk hk0;refine AN fun b5 _ ga _ g E=>?_;have h:=Ui h;have hk0:=Ui hk0;refine AS fun _ ga Ca g E=>?_;have h:=Ub h;have hk0:=Ud hk0;obtain ⟨hpe,p_16,c_16,hcell,hkid⟩:=Yk hk0 (i:=0) (by omega);refine AU ?_;refine CL (CkC.to (Q0.ex he) [b3,b4,b5] h hkid hb (by omega) (E.ltm (by simp [selB])) g.size) ?_;rintro _ _ ⟨⟨p18,c18,rfl,q18,k18⟩,h,ga⟩;refine RC fun g E=>?_;have hk0:=Um hk0;refine AN fun b6 _ ga _ g E=>?_;have k18:=Uj k18;have h:=Ui h;have hk0:=Ui hk0;refine AS fun _ ga Ca g E=>?_;have h:=Ub h;have hk0:=Ud hk0;have k18:=Ua k18;refine CN fun b20 _ ga l20 g E=>?_;have k18:=Uj k18;have h:=Ui h;have hk0:=Ui hk0;have x20_6:=E.ne 0 1 rfl rfl rfl;have x20_5:=E.ne 0 2 rfl rfl rfl;have x20_4:=E.ne 0 3 rfl rfl rfl;have x20_3:=E.ne 0 4 rfl rfl rfl;refine AS fun _ ga Ca g E=>?_;have h:=Ub h;have hk0:=Ud hk0;have k18:=Ua k18;refine IF (fun h1=>?_) fun h1=>?_;replace h1:t.kind=29:=of_decide_eq_true h1;obtain ⟨hl2,_,he1⟩:=sh29 h1 hx;have hc2:=cn2 hl2;have Q1:=K 1 (by omega);refine AU ?_;refine Xe [3,0,3,0,3,3,0,2] [true,true,true,true,true,true,true,true] [0,0,0,4,12,28,60,127] mix (by kernel_rfl) ?_
 have g:=gtd g;replace E:=E.dr;have h:=h.grow (G.drew _);have hk0:=hk0.grow (G.drew _);have k18:=k18.grow (G.drew _);obtain ⟨hpe,p_30,c_30,hcell,hkid⟩:=Yk hk0 (i:=0) (by omega);refine AU ?_;refine CL (Xba ((ckT F (Zb t 0)).ex S).1 _ _ 5 (Zb t 0).pos h) ?_;rintro _ _ ⟨rfl,h,ga⟩;refine RC fun g E=>?_;have hk0:=Um hk0;have k18:=Ul k18;obtain ⟨hpe,p_37,c_37,hcell,hkid⟩:=Yk hk0 (i:=1) (by omega);refine AU ?_;refine CL (CkC.to (Q1.ex he1) [b3,b4,b5,b6,b20] h hkid ((Zcc _ _ _ _).bd _ hbd1) (by omega) (E.ltm (by simp [selB])) g.size) ?_;rintro _ _ ⟨⟨p39,c39,rfl,q39,k39⟩,h,ga⟩;refine RC fun g E=>?_;have hk0:=Um hk0;have k18:=Ul k18;refine AN fun b7 _ ga _ g E=>?_;have k18:=Uj k18;have k39:=Uj k39;have h:=Ui h;have hk0:=Ui hk0;have x7_20:=E.ne 0 1 rfl rfl rfl;refine AS fun _ ga Ca g E=>?_;have h:=Ub h;have hk0:=Ud hk0;have k18:=Ua k18;have k39:=Ua k39;refine AU ?_;refine Xe [3,0,3,0,3,3,0,2] [true,true,true,true,true,true,true,true] [0,0,0,4,12,28,60,127] mix (by kernel_rfl) ?_;have g:=gtd g;replace E:=E.dr;have h:=h.grow (G.drew _);have hk0:=hk0.grow (G.drew _);have k18:=k18.grow (G.drew _);have k39:=k39.grow (G.drew _);obtain ⟨hpe,p_44,c_44,hcell,hkid⟩:=Yk hk0 (i:=1) (by omega);refine AU ?_;refine CL (Xba ((ckT F (Zb t 1)).ex (wantS ((ckT F (Zb t 0)).ex S).1 5 (Zb t 0).pos ((ckT F (Zb t 0)).ex S).2)).1 _ _ 1 (Zb t 1).pos h) ?_;rintro _ _ ⟨rfl,h,ga⟩;refine RC fun g E=>?_;have k18:=Ul k18;have k39:=Ul k39;refine AU ?_
 have hO20:OwnN [b3,b4,b5,b6,b7] w.heap.size _ [((ckT F (Zb t 0)).ex S).1] (.slice (some ⟨b20,0,none⟩) 1 1):=Qw E.g1 l20 (k18.mono fun k hk _=>⟨⟨⟨by have:=hk.1.1;omega,by have:=hk.1.2;simp at this ⊢;omega⟩,hk.2⟩,by have:=hk.1.2;simp at this;omega⟩) ⟨⟨l20,by simp;omega⟩,Xa E.g1⟩;refine CN fun _ _ ga _ g E=>?_;have k39:=Uj k39;have h:=Ui h;have hO20:=Ui hO20;have x51_20:=E.ne 0 2 rfl rfl rfl;have hOo:=hO20;refine Xx O Zd Zu O (Zc O) hO20 (Zc O) O E.g0.row (Qg k39 q39 (by intro j hj;simp at hj ⊢;omega) (fun j hj=>by obtain rfl:b20=j:=(by injection hj);simp)) (by simp) (by have:=g.size;omega) ⟨by have:=g.size;omega,by have q3:=E.g6.lt;have q4:=E.g5.lt;have q5:=E.g4.lt;have q6:=E.g3.lt;have q7:=E.g1.lt;simp;omega⟩ ?_;intro a52 c52 w52 hO20 hg52;replace E:=E.sel [false,true,false,true,true,true,true];replace E:=E.keepX hg52 hOo.ne (by simp [selB]);have g:=Ww g hg52 (fun k hk=>hOo.ge k hk);have h:=h.keepO hg52 hOo (by omega);refine AS fun _ ga Ca g E=>?_;have h:=Ub h;have hO20:=Ue hO20;refine AS fun _ ga Ca g E=>?_;have h:=Ub h;have hO20:=Ue hO20;refine AS fun _ ga Ca g E=>?_;have h:=Ub h;have hO20:=Ue hO20;refine RTN ?_;have e:opR t (ckY F t) S=(annT t [((ckT F (Zb t 0)).ex S).1,((ckT F (Zb t 1)).ex (wantS ((ckT F (Zb t 0)).ex S).1 5 (Zb t 0).pos ((ckT F (Zb t 0)).ex S).2)).1] tInt,wantS ((ckT F (Zb t 1)).ex (wantS ((ckT F (Zb t 0)).ex S).1 5 (Zb t 0).pos ((ckT F (Zb t 0)).ex S).2)).1 1 (Zb t 1).pos ((ckT F (Zb t 1)).ex (wantS ((ckT F (Zb t 0)).ex S).1 5 (Zb t 0).pos ((ckT F (Zb t 0)).ex S).2)).2):=by unfold opR;dsimp only;rw [Ywh h1];rfl
 rw [e];exact ⟨Zr (t:=annT t [_,_] tInt) rfl hO20.kd,h,g⟩;replace h1:t.kind≠29:=of_decide_eq_false h1;refine IF (fun h2=>?_) fun h2=>?_;replace h2:t.kind=31:=of_decide_eq_true h2;refine AS fun _ ga Ca g E=>?_;have h:=Ub h;have k18:=Ua k18;refine IF (fun h3=>?_) fun h3=>?_;(try simp only [bsimp] at h3);refine AS fun _ ga Ca g E=>?_;have h:=Ub h;have k18:=Ua k18;refine AU ?_;refine CL (Xba ((ckT F (Zb t 0)).ex S).1 _ _ _ t.pos h) ?_;rintro _ _ ⟨rfl,h,ga⟩;refine RC fun g E=>?_;have k18:=Ul k18;refine AS fun _ ga Ca g E=>?_;have h:=Ub h;have k18:=Ua k18;refine RTN ?_;have e:opR t (ckY F t) S=(annT t [((ckT F (Zb t 0)).ex S).1] tBool,wantS ((ckT F (Zb t 0)).ex S).1 2 t.pos ((ckT F (Zb t 0)).ex S).2):=by unfold opR;dsimp only;rw [Yvh h1,Ywh h2];unfold unTy;rw [h3];rfl
 rw [e];exact ⟨Zr (t:=annT t [_] _) rfl (Xk (ks:=[_]) ⟨l20,Xa E.g0⟩ E.g0.row (Yc (k18.kdN q18)) (Nat.le_refl _)),h,g⟩;refine AU ?_;refine CL (Xba ((ckT F (Zb t 0)).ex S).1 _ _ _ t.pos h) ?_;rintro _ _ ⟨rfl,h,ga⟩;refine RC fun g E=>?_;have k18:=Ul k18;refine AS fun _ ga Ca g E=>?_;have h:=Ub h;have k18:=Ua k18;refine RTN ?_;have e:opR t (ckY F t) S=(annT t [((ckT F (Zb t 0)).ex S).1] tInt,wantS ((ckT F (Zb t 0)).ex S).1 1 t.pos ((ckT F (Zb t 0)).ex S).2):=by unfold opR;dsimp only;rw [Yvh h1,Ywh h2];unfold unTy;rw [h3];rfl
 rw [e];exact ⟨Zr (t:=annT t [_] _) rfl (Xk (ks:=[_]) ⟨l20,Xa E.g0⟩ E.g0.row (Yc (k18.kdN q18)) (Nat.le_refl _)),h,g⟩;replace h2:t.kind≠31:=of_decide_eq_false h2;refine IF (fun h4=>?_) fun h4=>?_;replace h4:t.kind=32:=of_decide_eq_true h4;obtain ⟨_,hl2,_,he1⟩:=sh32 h4 hx;have hc2:=cn2 hl2;have Q1:=K 1 (by omega);obtain ⟨hpe,p_78,c_78,hcell,hkid⟩:=Yk hk0 (i:=1) (by omega);refine AU ?_;refine CL (CkC.to (Q1.ex he1) [b3,b4,b5,b6,b20] h hkid hbd1 (by omega) (E.ltm (by simp [selB])) g.size) ?_;rintro _ _ ⟨⟨p80,c80,rfl,q80,k80⟩,h,ga⟩;refine RC fun g E=>?_;have k18:=Ul k18;refine AN fun b8 _ ga _ g E=>?_;have k18:=Uj k18;have k80:=Uj k80;have h:=Ui h;have x8_20:=E.ne 0 1 rfl rfl rfl;refine AS fun _ ga Ca g E=>?_;have h:=Ub h;have k18:=Ua k18;have k80:=Ua k80;refine AU ?_;have hO20:OwnN [b3,b4,b5,b6,b8] w.heap.size _ [((ckT F (Zb t 0)).ex S).1] (.slice (some ⟨b20,0,none⟩) 1 1):=Qw E.g1 l20 (k18.mono fun k hk _=>⟨⟨⟨by have:=hk.1.1;omega,by have:=hk.1.2;simp at this ⊢;omega⟩,hk.2⟩,by have:=hk.1.2;simp at this;omega⟩) ⟨⟨l20,by simp;omega⟩,Xa E.g1⟩;refine CN fun _ _ ga _ g E=>?_;have k80:=Uj k80;have h:=Ui h;have hO20:=Ui hO20;have x84_20:=E.ne 0 2 rfl rfl rfl;have hOo:=hO20;refine Xx O Zd Zu O (Zc O) hO20 (Zc O) O E.g0.row (Qg k80 q80 (by intro j hj;simp at hj ⊢;omega) (fun j hj=>by obtain rfl:b20=j:=(by injection hj);simp)) (by simp) (by have:=g.size;omega) ⟨by have:=g.size;omega,by have q3:=E.g6.lt;have q4:=E.g5.lt;have q5:=E.g4.lt;have q6:=E.g3.lt;have q8:=E.g1.lt;simp;omega⟩ ?_;intro a85 c85 w85 hO20 hg85;replace E:=E.sel [false,true,false,true,true,true,true];replace E:=E.keepX hg85 hOo.ne (by simp [selB])
 have g:=Ww g hg85 (fun k hk=>hOo.ge k hk);have h:=h.keepO hg85 hOo (by omega);refine AS fun _ ga Ca g E=>?_;have h:=Ub h;have hO20:=Ue hO20;refine AU ?_;refine CP (Wog _ _ _ _) (fun w94 g94=>?_);have g:=gtg g g94;replace E:=E.grow g94;have h:=h.grow (g94);have hO20:=hO20.grow (g94);refine AN fun _ _ ga _ g E=>?_;have h:=Ui h;have hO20:=Ui hO20;refine AS fun _ ga Ca g E=>?_;have h:=Ub h;have hO20:=Ue hO20;refine IF (fun h5=>?_) fun h5=>?_;(try simp only [bsimp] at h5);refine AU ?_;refine CL (Wh t.pos 7 h) ?_;rintro _ _ ⟨rfl,h,ga⟩;refine RC fun g E=>?_;have hO20:=hO20.gt ga rfl;refine AU ?_;refine Xi O Wi (Zc O) (Zc O) O O E.g3 O O ?_;intro wS15 hgS15 _ BS;have C5:=E.g3;replace E:=E.s3 hgS15 BS;have g:=Wo g hgS15 (by omega);have h:=h.keep hgS15 C5 rfl (by omega);first|have hO20:=hO20.keept hgS15 C5 rfl|have hO20:=hO20.keep hgS15 (by simp)
 refine AS fun _ ga Ca g E=>?_;have h:=Ub h;have hO20:=Ue hO20;refine RTN ?_;have e:opR t (ckY F t) S=(annT t [((ckT F (Zb t 0)).ex S).1,((ckT F (Zb t 1)).ex ((ckT F (Zb t 0)).ex S).2).1] (binT t.text ((ckT F (Zb t 0)).ex S).1.ty ((ckT F (Zb t 1)).ex ((ckT F (Zb t 0)).ex S).2).1.ty).1,failU (binT t.text ((ckT F (Zb t 0)).ex S).1.ty ((ckT F (Zb t 1)).ex ((ckT F (Zb t 0)).ex S).2).1.ty).2 t.pos 7 ((ckT F (Zb t 1)).ex ((ckT F (Zb t 0)).ex S).2).2):=by unfold opR;dsimp only;rw [Yvh h1,Yvh h2,Ywh h4];rfl
 rw [e];have hr:(binT t.text ((ckT F (Zb t 0)).ex S).1.ty ((ckT F (Zb t 1)).ex ((ckT F (Zb t 0)).ex S).2).1.ty).2=false:=by simpa using h5
 rw [hr];exact ⟨Zr (t:=annT t [_,_] _) rfl hO20.kd,h,g⟩;refine AU ?_;refine Xi O Wi (Zc O) (Zc O) O O E.g3 O O ?_;intro wS17 hgS17 _ BS;have C5:=E.g3;replace E:=E.s3 hgS17 BS;have g:=Wo g hgS17 (by omega);have h:=h.keep hgS17 C5 rfl (by omega);first|have hO20:=hO20.keept hgS17 C5 rfl|have hO20:=hO20.keep hgS17 (by simp)
 refine AS fun _ ga Ca g E=>?_;have h:=Ub h;have hO20:=Ue hO20;refine RTN ?_;have e:opR t (ckY F t) S=(annT t [((ckT F (Zb t 0)).ex S).1,((ckT F (Zb t 1)).ex ((ckT F (Zb t 0)).ex S).2).1] (binT t.text ((ckT F (Zb t 0)).ex S).1.ty ((ckT F (Zb t 1)).ex ((ckT F (Zb t 0)).ex S).2).1.ty).1,failU (binT t.text ((ckT F (Zb t 0)).ex S).1.ty ((ckT F (Zb t 1)).ex ((ckT F (Zb t 0)).ex S).2).1.ty).2 t.pos 7 ((ckT F (Zb t 1)).ex ((ckT F (Zb t 0)).ex S).2).2):=by unfold opR;dsimp only;rw [Yvh h1,Yvh h2,Ywh h4];rfl
 rw [e];have hr:(binT t.text ((ckT F (Zb t 0)).ex S).1.ty ((ckT F (Zb t 1)).ex ((ckT F (Zb t 0)).ex S).2).1.ty).2=true:=by simpa using h5
 rw [hr];exact ⟨Zr (t:=annT t [_,_] _) rfl hO20.kd,h,g⟩;replace h4:t.kind≠32:=of_decide_eq_false h4;refine IF (fun h6=>?_) fun h6=>?_;(try simp only [bsimp] at h6);refine AU ?_;refine CL (Xba ((ckT F (Zb t 0)).ex S).1 _ _ 6 t.pos h) ?_;rintro _ _ ⟨rfl,h,ga⟩;refine RC fun g E=>?_;have k18:=Ul k18;refine AS fun _ ga Ca g E=>?_;have h:=Ub h;have k18:=Ua k18;refine AS fun _ ga Ca g E=>?_;have h:=Ub h;have k18:=Ua k18;refine RTN ?_;have e:opR t (ckY F t) S=(annT t [((ckT F (Zb t 0)).ex S).1] tInt,wantS ((ckT F (Zb t 0)).ex S).1 6 t.pos ((ckT F (Zb t 0)).ex S).2):=by unfold opR;dsimp only;rw [Yvh h1,Yvh h2,Yvh h4,h6];rfl
 rw [e];exact ⟨Zr (t:=annT t [_] _) rfl (Xk (ks:=[_]) ⟨l20,Xa E.g0⟩ E.g0.row (Yc (k18.kdN q18)) (Nat.le_refl _)),h,g⟩;refine IF (fun h7=>?_) fun h7=>?_;(try simp only [bsimp] at h7);refine AU ?_;refine Xe [3,0,3,0,3,3,0,2] [true,true,true,true,true,true,true,true] [0,0,0,4,12,28,60,127] mix (by kernel_rfl) ?_;have g:=gtd g;replace E:=E.dr;have h:=h.grow (G.drew _);have hk0:=hk0.grow (G.drew _);have k18:=k18.grow (G.drew _);obtain ⟨hpe,p_120,c_120,hcell,hkid⟩:=Yk hk0 (i:=0) (by omega);refine AU ?_;refine CL (Xba ((ckT F (Zb t 0)).ex S).1 _ _ 5 (Zb t 0).pos h) ?_;rintro _ _ ⟨rfl,h,ga⟩;refine RC fun g E=>?_;have k18:=Ul k18;refine AS fun _ ga Ca g E=>?_;have h:=Ub h;have k18:=Ua k18;refine AS fun _ ga Ca g E=>?_;have h:=Ub h;have k18:=Ua k18;refine RTN ?_;have e:opR t (ckY F t) S=(annT t [((ckT F (Zb t 0)).ex S).1] tInt,wantS ((ckT F (Zb t 0)).ex S).1 5 (Zb t 0).pos ((ckT F (Zb t 0)).ex S).2):=by unfold opR;dsimp only;rw [Yvh h1,Yvh h2,Yvh h4,h6,h7];rfl
 rw [e];exact ⟨Zr (t:=annT t [_] _) rfl (Xk (ks:=[_]) ⟨l20,Xa E.g0⟩ E.g0.row (Yc (k18.kdN q18)) (Nat.le_refl _)),h,g⟩;refine IF (fun h8=>?_) fun h8=>?_;(try simp only [bsimp] at h8);refine AU ?_;refine Xe [3,0,3,0,3,3,0,2] [true,true,true,true,true,true,true,true] [0,0,0,4,12,28,60,127] mix (by kernel_rfl) ?_;have g:=gtd g;replace E:=E.dr;have h:=h.grow (G.drew _);have hk0:=hk0.grow (G.drew _);have k18:=k18.grow (G.drew _);obtain ⟨hpe,p_132,c_132,hcell,hkid⟩:=Yk hk0 (i:=0) (by omega);refine AU ?_;refine CL (Xba ((ckT F (Zb t 0)).ex S).1 _ _ 1 (Zb t 0).pos h) ?_;rintro _ _ ⟨rfl,h,ga⟩;refine RC fun g E=>?_;have k18:=Ul k18;refine AS fun _ ga Ca g E=>?_;have h:=Ub h;have k18:=Ua k18;refine AS fun _ ga Ca g E=>?_;have h:=Ub h;have k18:=Ua k18;refine RTN ?_;have e:opR t (ckY F t) S=(annT t [((ckT F (Zb t 0)).ex S).1] ⟨5,[]⟩,wantS ((ckT F (Zb t 0)).ex S).1 1 (Zb t 0).pos ((ckT F (Zb t 0)).ex S).2):=by unfold opR;dsimp only;rw [Yvh h1,Yvh h2,Yvh h4,h6,h7,h8];rfl
 rw [e];exact ⟨Zr (t:=annT t [_] _) rfl (Xk (ks:=[_]) ⟨l20,Xa E.g0⟩ E.g0.row (Yc (k18.kdN q18)) (Nat.le_refl _)),h,g⟩;refine IF (fun h9=>?_) fun h9=>?_;(try simp only [bsimp] at h9);refine AU ?_;refine Xe [3,0,3,0,3,3,0,2] [true,true,true,true,true,true,true,true] [0,0,0,4,12,28,60,127] mix (by kernel_rfl) ?_;have g:=gtd g;replace E:=E.dr;have h:=h.grow (G.drew _);have hk0:=hk0.grow (G.drew _);have k18:=k18.grow (G.drew _);obtain ⟨hpe,p_144,c_144,hcell,hkid⟩:=Yk hk0 (i:=0) (by omega);refine AU ?_;refine CL (Xba ((ckT F (Zb t 0)).ex S).1 _ _ 1 (Zb t 0).pos h) ?_;rintro _ _ ⟨rfl,h,ga⟩;refine RC fun g E=>?_;have k18:=Ul k18;refine AS fun _ ga Ca g E=>?_;have h:=Ub h;have k18:=Ua k18;refine AS fun _ ga Ca g E=>?_;have h:=Ub h;have k18:=Ua k18;refine RTN ?_;have e:opR t (ckY F t) S=(annT t [((ckT F (Zb t 0)).ex S).1] ⟨6,[]⟩,wantS ((ckT F (Zb t 0)).ex S).1 1 (Zb t 0).pos ((ckT F (Zb t 0)).ex S).2):=by unfold opR;dsimp only;rw [Yvh h1,Yvh h2,Yvh h4,h6,h7,h8,h9];rfl
 rw [e];exact ⟨Zr (t:=annT t [_] _) rfl (Xk (ks:=[_]) ⟨l20,Xa E.g0⟩ E.g0.row (Yc (k18.kdN q18)) (Nat.le_refl _)),h,g⟩;refine AS fun _ ga Ca g E=>?_;have h:=Ub h;have k18:=Ua k18;refine RTN ?_;have e:opR t (ckY F t) S=(annT t [((ckT F (Zb t 0)).ex S).1] ty0,((ckT F (Zb t 0)).ex S).2):=by unfold opR;dsimp only;rw [Yvh h1,Yvh h2,Yvh h4,h6,h7,h8,h9];rfl
 rw [e];exact ⟨Zr (t:=annT t [_] _) rfl (Xk (ks:=[_]) ⟨l20,Xa E.g0⟩ E.g0.row (Yc (k18.kdN q18)) (Nat.le_refl _)),h,g⟩
set_option maxHeartbeats 1000000
theorem Jyf{w w':World}{a:Option Addr}{m m' c:Nat}(h:w.grownBy w' (Value.slice a m c).ownBlock):w.grownBy w' (Value.slice a m' c).ownBlock:=by cases a <;> exact h
theorem Jae{F t:Nd}(S:CSt):∀ i,i≤t.kids.length→stA (ckX F t) S i=stA (ckY F t) S i
 | 0,_=>rfl
 | i+1,h=>by
  rw [stA,stA,Jae S i (by omega),Vt (show i<t.kids.length by omega)];rfl
theorem Ybf(x:Nat→Ck)(S:CSt):∀ i,(stA x S i).1.length=i
 | 0=>rfl
 | i+1=>by
  show ((stA x S i).1++[_]).length=_;rw [List.length_append,Ybf x S i];rfl
theorem Jzf{F t:Nd}(S:CSt)(i:Nat)(h:i≤t.kids.length):Stp (sC t i) S (stA (ckY F t) S i).2:=by
 rw [← Jae S i h];exact Zse (Jsf F t) S i
theorem Wtf{F t:Nd}(K:∀ i,i<t.kids.length→CkOk F (Zb t i))(hx:blockB t=true):CkM' 1000001 F Jq t (ckT F t).sts:=by
 intro n0 b S w v N h hkw hb hcn;have hall:=sh10 hx
 have e:(ckT F t).sts S=(annT t (stA (ckY F t) S t.kids.length).1 ty0,(stA (ckY F t) S t.kids.length).2):=by
  rw [Yva];show (annT t (stA (ckX F t) S t.kids.length).1 ty0,(stA (ckX F t) S t.kids.length).2)=_;rw [Jae S _ (Nat.le_refl _)]
 rw [e];obtain ⟨p,c,rfl,_⟩:=id hkw;have hlt:=h.lt;have hln:=Up t;have g:=GT.refl mutR n0 w;refine WK 29 [0,1] Wgb ?_;refine BM fun b3 _ ga _ g E=>?_;have h:=Ui h;refine AN fun b4 _ ga _ g E=>?_;have h:=Ui h;refine AU ?_;refine CL (Vn t _ _ _) ?_;rintro _ _ ⟨rfl,ga⟩;refine RC fun g E=>?_;have h:=Uk h;refine AN fun b5 _ ga _ g E=>?_;have h:=Ui h;refine AS fun _ ga Ca g E=>?_;have h:=Ub h;refine AU ?_;have hnd1:=E.1;refine We (fun (i:Nat) u1=>(i≤t.kids.length∧Chk F n0 b (stA (ckY F t) S i).2 u1∧∃ s,Blk u1 b5 Ys (ndCells (clnT t) s)∧OwnN [b3,b4,b5] w.heap.size u1 (stA (ckY F t) S i).1 s)∧GT mutR n0 w u1) _ [(0,True,_),(3,True,_),(4,True,_),(5,True,_)] (fun (i:Nat)=>[(6,True,.int .i64 i)]) (fun (i:Nat)=>t.kids.length-i) (0) ⟨⟨Nat.zero_le _,h,_,E.g0,Wma _ _ _⟩,g⟩ (Zs (blkE E.g2) (Zs (blkE E.g1) (Yh _))) (Za O (Za O (Za O (Za O (Za O (Zp _)))))) ?_;clear E;rintro i u1 ⟨hI1,gl1⟩ ⟨B3,B4,_⟩;replace B3:Blk _ _ _ _:=B3;replace B4:Blk _ _ _ _:=B4;have g:=gl1;obtain ⟨hi,h,s,B5,hO⟩:=hI1;obtain ⟨sa,sc,rfl⟩:=hO.slice;have hk0:=hkw.gt gl1 (fun k h=>h);have E:=Zha (L:=[(b5,_,_),(b4,_,_),(b3,_,_)]) hnd1 ⟨B5,B4,B3,trivial⟩ rfl;refine IF (fun h1=>?_) fun h1=>?_;replace h1:i<t.kids.length:=by simp only [decide_eq_true_eq] at h1;omega
 obtain ⟨e0,p1,c1,hcell,hkid⟩:=Yk hk0 (i:=i) h1;have hDp:pb p<n0:=Jba hk0 h1;have hq:CkC F Yba (Zb t i) (ckT F (Zb t i)).st:=(K i h1).st (Ur hall h1);have hbd:=(Jzf (F:=F) S i hi).bd _ hb;have hsc:=Vxa t (i+1);have hcN:=Vhc h1;have hsc1:sC t (i+1)=sC t i+cN t i:=rfl;have hOlt:=hO.lt;have hlen:=Ybf (ckY F t) S i;refine AU ?_;refine Xu (gtR n0) [3,0,3,3,0,3,3,0,1,1,2,3,2] [0,1,0,0,8,0,56,120,252,508,1023,2047,4095] mix (by kernel_rfl) [0,1,2,3,4,5,6,7,8,9,10,11,12] O ?_;have g:=gtd g;replace E:=E.dr;have h:=h.grow (G.drew _);have hO:=hO.grow (G.drew _);have hcell:=hcell.grow (G.drew _);have hkid:=hkid.grow (G.drew _);refine Zx 0 O O (fun _=>Zn Zg (Zc O)) (Wf 1 O O (fun w1 hx=>Zt Zf (Zc O) (fun _=>(E.g0.gt hx O).at_ O)) (Zx 2 O O (fun _=>Zl (Zc O)) (Zx 3 O O (fun _=>Zn Zg (Zc O)) (Wf 4 O O (fun w1 hx=>Zt Zf (Zc O) (fun _=>(E.g2.gt hx O).at_ O)) (Zx 5 O O (fun _=>Zl (Zc O)) (Zx 6 O O (fun _=>Yz Zd (Zc O) (Zc O) (fun _=>by omega) (fun _=>e0)) (Wf 7 O O (fun w1 hx=>Zy Zh (Zc O) O (fun _=>hcell.gt hx hDp)) (Zv 8 O O ?_))))))));refine Zw (L':=[9,10,11,12]) [3,0,3,3,0,3,3,0,2,1,2,3,2] O O O ?_;refine CL (CkC.to hq [b3,b4,b5] h hkid hbd (by omega) (E.ltm (by simp [selB])) g.size) ?_;rintro v24 w24 ⟨⟨p24,c24,rfl,q24,k24⟩,h,g24⟩;refine ⟨nw1,?_⟩;have g:=g.trans g24;replace E:=E.gt g24 rfl;have hO:=hO.gt g24 rfl;refine Yi (g24) ?_;refine Zv 9 O O ?_;refine Zw (L':=[10,11,12]) [3,0,3,3,0,3,3,0,2,1,2,3,2] O O O ?_;refine CN fun _ _ N25 _ g E=>?_;have k24:=k24.new N25;have h:=h.grow (N25.g);have hO:=hO.grow (N25.g);refine Yi (GT.of_g (N25.g)) ?_;refine Zv 10 O O ?_
 refine Yf (L':=[11,12]) [3,0,3,3,0,3,3,0,2,1,2,3,2] O O O O ?_;have hOo:=hO;refine Xx O Zd Zu O (Zc O) hO (Zc O) O E.g0.row (Qg k24 q24 (by intro j hj;simp at hj ⊢;omega) (fun j hj=>.inr (hOlt j hj))) (by simp;omega) (by have:=g.size;omega) ⟨by have:=g.size;omega,by have q3:=E.g3.lt;have q4:=E.g2.lt;have q5:=E.g1.lt;simp;omega⟩ ?_;intro a26 c26 w26 hO hg26;replace E:=E.sel [false,true,true,true];replace E:=E.keepX hg26 hOo.ne (by simp [selB]);have g:=Ww g hg26 (fun k hk=>hOo.ge k hk);have h:=h.keepO hg26 hOo (by omega);refine Yx ?_;refine Zx 11 O O (fun _=>Zn Zg (Zc O)) (Zv 12 O O ?_);refine Yf (L':=[]) [3,0,3,3,0,3,3,0,2,1,2,3,2] O O O O ?_;refine AS fun _ ga Ca g E=>?_;have h:=Ub h;have hO:=Ua hO;refine Yx ?_;refine TK [0,3,4,5,6] ?_;refine AU ?_;refine SK [6,0,3,4,5] ?_;refine Ze (fun a ha=>?_);exact ⟨i+1,ha,⟨⟨h1,h,_,E.g0,hO⟩,g⟩,(Zs (blkE E.g2) (Zs (blkE E.g1) (Yh _))),by omega⟩;replace h1:i=t.kids.length:=by simp only [decide_eq_false_iff_not] at h1;omega
 subst h1;refine AS fun _ ga Ca g E=>?_;have h:=Ub h;have hO:=Ua hO;refine RTN ?_;exact ⟨Zr (t:=annT t _ ty0) rfl hO.kd,h,g⟩
theorem Wxe{F t:Nd}(K:∀ i,i<t.kids.length→CkOk F (Zb t i))(hk38:t.kind=38)(hx:exprB t=true):CkC F Wnb t (litR t (ckY F t)):=by
 intro n0 b S w v N h hk0 hb hcn;obtain ⟨hl,hbl⟩:=sh38 hk38 hx;obtain ⟨p,c,rfl,_⟩:=id hk0;have hlt:=h.lt;have hc1:=cn1 hl;have Q0:=K 0 (by omega);have hlv:=hb.lv;have hnl:=hb.nl;have hbl1:=Jof hb;have hsl:=(Xqb F (Zb t 0)).blk (litS S);have hlv2:((ckT F (Zb t 0)).blk (litS S)).2.level=S.level+1:=hsl.level;obtain ⟨fv,sv,sn,h⟩:=h;have g:=GT.refl mutR n0 w;refine WK 60 [0,1] Yeb ?_;refine BM fun b3 _ ga _ g E=>?_;have h:=Ui h;have hk0:=Ui hk0;refine AN fun b4 _ ga _ g E=>?_;have h:=Ui h;have hk0:=Ui hk0;refine AU ?_;refine CL (Vn t _ _ _) ?_;rintro _ _ ⟨rfl,ga⟩;refine RC fun g E=>?_;have h:=Uk h;have hk0:=Uk hk0;refine AN fun b5 _ ga _ g E=>?_;have h:=Ui h;have hk0:=Ui hk0;refine AS fun _ ga Ca g E=>?_;have h:=Ub h;have hk0:=Ud hk0;refine Ze (kq (Zj (Zm (Zba Wn Ve (pqc O pq0) O O (Yj Wl O (Xi O Wi (Zc O) (Zc O) O O E.g0 O O ?_))))));intro wS2 hgS2 _ BS;have C5:=E.g0;replace E:=E.s0 hgS2 BS;have g:=Wo g hgS2 (by omega);have h:=h.keep hgS2 C5 rfl (by omega);have hk0:=hk0.keep hgS2 (fun k hk _ e=>by injection e with e;omega);refine Ze (kq (Zj (Zm (Zq O (Ql O (Yj Zda O (Vf Xb O O (h.B.row.part 13 2) (AN fun b6 _ ga _ g E=>?_))))))));have h:=Ui h;have hk0:=Ui hk0;refine AS fun _ ga Ca g E=>?_;have h:=Ub h;have hk0:=Ud hk0;refine AU ?_;refine Xi O Wi (Zc O) (Zc O) O O h.B O O ?_;intro wA hgA hzA BA;replace E:=E.keepT hgA (h.B) rfl;have g:=Wu g hgA h.B rfl h.hb;have hk0:=hk0.keep hgA (fun k hk _ e=>by injection e with e;have:=h.hb;omega);have h:=h.set (S':={ S with result:=ty0 }) hgA BA rfl rfl;have l1:({ S with result:=ty0 }:CSt).level=S.level:=rfl;refine AU ?_;refine Xi O Va (Zc O) (Zc O) O O h.B O O ?_;intro wB hgB hzB BB;replace E:=E.keepT hgB (h.B) rfl
 have g:=Wu g hgB h.B rfl h.hb;have hk0:=hk0.keep hgB (fun k hk _ e=>by injection e with e;have:=h.hb;omega);have h:=h.set (S':={ S with result:=ty0,level:=S.level+1 }) hgB BB rfl rfl;obtain ⟨an,cn,rfl,hcapn⟩:=Vja h.on;have l2:({ S with result:=ty0,level:=S.level+1 }:CSt).level=S.level+1:=rfl;have l3':({ S with result:=ty0,level:=S.level+1 }:CSt).next.length=S.next.length:=rfl;refine Ze (kq (Zj (Xe [3,3,3,3,0,3,3,3,0,3,1,2,3,3,2] [true,true,true,true,true,true,true,true,true,true,true,true,true,true,true] [0,0,2,6,14,0,32,96,224,510,0,2046,4095,8191,16383] mix (by kernel_rfl) ?_)));have g:=gtd g;replace E:=E.dr;have h:=h.grow (G.drew _);have hk0:=hk0.grow (G.drew _);refine Zq O (Zq O (Ql O (Yj Wt O (Yq Jva O (h.B.at_ O) (Zq O (Ql O (Yj Vz O (Yq Yd O (h.B.at_ O) (Zo O (fun _=>Yqe Xda (Zc O) (Zc O) (fun _=>by omega)) (Wy _ O Xda Yqd (pqc O pq0) O O ?_))))))))));intro b36 w36 N36;have l36:=Zza N36 g.size;have B36:=N36.blk;have g:=gtg g N36.g;replace E:=E.grow N36.g;have h:=h.grow (N36.g);have hk0:=hk0.grow (N36.g);refine Jc O Xda Yqd O (by decide) (Zc O) (Ztf h.on (j:=S.level+1) hlv) (Zc O) O N36.blk.row O (by simp only [maxLen];omega) (by omega) (by have:=g.size;omega) ?_;intro an2 cn2 w37 hon2 hg37 hat37;have hg37:World.grownBy _ w37 (Value.slice an S.next.length cn).ownBlock:=Jyf hg37;have g:=Qjf g h.on rfl hg37;replace E:=E.keepN h.on hg37 rfl;have hk0:=hk0.keep hg37 (fun k hk _ e=>by have:=(Jxb (M:=mutR) h.on rfl k e.symm).1;omega);refine AU ?_;refine Xi O Jsb (Zc O) (Zc O) O O (h.rown hg37).1 O O ?_;intro wC hgC hzC BC;replace E:=E.keepT hgC ((h.rown hg37).1) rfl;have g:=Wu g hgC (h.rown hg37).1 rfl h.hb
 have hk0:=hk0.keep hgC (fun k hk _ e=>by injection e with e;have:=h.hb;omega)
 have hl2:(litS S).next.length=S.level+1+1:=by
  show (S.next.take (S.level+1)++[0]).length=_;rw [List.length_append,List.length_take,Nat.min_eq_left hlv];rfl
 have hm2:(litS S).next.map (fun (k:Nat)=>Value.int .i64 (k:Int))=(S.next.map fun (k:Nat)=>Value.int .i64 (k:Int)).take ((S.level+1)*1)++[.int .i64 0]:=by
  show (S.next.take (S.level+1)++[0]).map _=_;rw [List.map_append,List.map_take,Nat.mul_one];rfl
 have h:=h.setn (S':=litS S) hg37 (by rw [hl2,hm2];exact hon2) hgC BC rfl;obtain ⟨hpe,p_43,c_43,hcell,hkid⟩:=Yk hk0 (i:=0) (by omega);refine AU ?_;refine CL (CkC.to (Q0.blk hbl) [b3,b4,b5,b6] h.chk hkid hbl1 (by omega) (E.ltm (by simp [selB])) g.size) ?_;rintro _ _ ⟨⟨p45,c45,rfl,q45,k45⟩,hT,ga⟩;refine RC fun g E=>?_;obtain ⟨fv2,sv2,sn2,h⟩:=hT;refine CN fun _ _ ga l46 g E=>?_;have k45:=Uj k45;have h:=Ui h;refine AS fun _ ga Ca g E=>?_;have h:=Ub h;have k45:=k45.keep ga (by first|exact .inl (by omega)|exact .inr (by simp));refine AU ?_;refine Xi O Va (Zc O) (Zc O) O O h.B O O ?_;intro wD hgD hzD BD;replace E:=E.keepT hgD (h.B) rfl;have g:=Wu g hgD h.B rfl h.hb;have k45:=k45.keepb hgD h.B rfl;have eD:(((ckT F (Zb t 0)).blk (litS S)).2.level:Int)-1=((((ckT F (Zb t 0)).blk (litS S)).2.level-1:Nat):Int):=by omega
 rw [eD] at BD;have h:=h.set (S':={ ((ckT F (Zb t 0)).blk (litS S)).2 with level:=((ckT F (Zb t 0)).blk (litS S)).2.level-1 }) hgD BD rfl rfl;refine AU ?_;refine Xi O Wi (Zc O) (Zc O) O O h.B O O ?_;intro wE hgE hzE BE;replace E:=E.keepT hgE (h.B) rfl;have g:=Wu g hgE h.B rfl h.hb;have k45:=k45.keepb hgE h.B rfl;have h:=h.set (S':={ ((ckT F (Zb t 0)).blk (litS S)).2 with level:=((ckT F (Zb t 0)).blk (litS S)).2.level-1,result:=S.result }) hgE BE rfl rfl;refine AS fun _ ga Ca g E=>?_;have h:=Ub h;have k45:=k45.keep ga (by first|exact .inl (by omega)|exact .inr (by simp));refine RTN ?_;exact ⟨Zr (t:=annT t [_] tFunc) rfl (Xk (ks:=[_]) ⟨l46,Xa E.g0⟩ E.g0.row (Yc (k45.kdN q45)) (Nat.le_refl _)),h.chk,g⟩
set_option maxHeartbeats 1000000
theorem Zag{w:World}{l:List Fld}{p:Option Addr}{c:Nat}(h:RowF fldCells w l (.slice p l.length c)){i:Nat}(hi:i<l.length):p=some ⟨pb p,po p,none⟩∧RowAt w (pb p) (po p+i*3) (fldCells l[i]):=by
 obtain ⟨p',c',hv,hc,h⟩:=h;injection hv with e1 _ e2;subst e1;obtain ⟨b,o,rfl,hR⟩:=h (by omega);exact ⟨rfl,Jvb (f:=fldCells) (z:=3) Jvc hR hi⟩
theorem KdX.low{lo lo':Nat}{X:List Nat}{w:World}{ks:List Nd}{v:Value}(h:KdX lo X w ks v)(hl:lo'≤lo):KdX lo' X w ks v:=Kd.mono h fun k hk _=>⟨⟨Nat.le_trans hl hk.1.1,hk.1.2⟩,hk.2⟩
theorem Zbg(F:Nd)(name:List UInt8):(Zja F name).1.length≤count F:=by
 unfold Zja
 cases h:F.kids.find? (isStr name) with
 | none=>exact Nat.zero_le _
 | some d =>
  dsimp only;have hm:=List.mem_of_find?_eq_some h;have hc:=Ji hm;have hk:=Up d
  cases h2:mapO Zab d.kids with
  | none=>exact Nat.zero_le _
  | some l =>
   have:=Xjd Zab _ _ h2;show l.length≤_;omega
theorem Wuf{L:List Fld}{i:Nat}(h:i<L.length)(s:List UInt8):(L.drop i).find? (fun f=>decide (f.name=s))=bif decide (L[i].name=s) then some L[i] else (L.drop (i+1)).find? (fun f=>decide (f.name=s)):=by
 rw [List.drop_eq_getElem_cons h,List.find?_cons];cases decide (L[i].name=s) <;> rfl
theorem Xxd{F t:Nd}(K:∀ i,i<t.kids.length→CkOk F (Zb t i))(hk28:t.kind=28)(hx:exprB t=true):CkM F t:=by
 intro n0 b S w v N h hk0 hb hcn;obtain ⟨_,hl,he⟩:=sh28 hk28 hx
 have e:(ckT F t).mem S=memR F t (ckY F t) S:=by
  rw [Yva];show memR F t (ckX F t) S=_;unfold memR;rw [Vt (show 0<t.kids.length by omega)];rfl
 rw [e];obtain ⟨p,c,rfl,_⟩:=id hk0;have hlt:=h.lt;have hc1:=cn1 hl;have Q0:=K 0 (by omega);have g:=GT.refl mutR n0 w;refine WK 68 [0,1] Yxb ?_;refine BM fun b3 _ ga _ g E=>?_;have h:=Ui h;have hk0:=Ui hk0;refine AN fun b4 _ ga _ g E=>?_;have h:=Ui h;have hk0:=Ui hk0;refine AU ?_;refine CL (Vn t _ _ _) ?_;rintro _ _ ⟨rfl,ga⟩;refine RC fun g E=>?_;have h:=Uk h;have hk0:=Uk hk0;refine AN fun b6 _ ga _ g E=>?_;have h:=Ui h;have hk0:=Ui hk0;refine AS fun _ ga Ca g E=>?_;have h:=Ub h;have hk0:=Ud hk0;obtain ⟨hpe,p_16,c_16,hcell,hkid⟩:=Yk hk0 (i:=0) (by omega);refine AU ?_;refine CL (CkC.to (Q0.ex he) [b3,b4,b6] h hkid hb (by omega) (E.ltm (by simp [selB])) g.size) ?_;rintro _ _ ⟨⟨p18,c18,rfl,q18,k18⟩,h,ga⟩;refine RC fun g E=>?_;refine AN fun b7 _ ga _ g E=>?_;have k18:=Uj k18;have h:=Ui h;refine AS fun _ ga Ca g E=>?_;have h:=Ub h;have k18:=Ua k18;refine CN fun b20 _ ga l20 g E=>?_;have k18:=Uj k18;have h:=Ui h;refine AS fun _ ga Ca g E=>?_;have h:=Ub h;have k18:=Ua k18;refine IF (fun h1=>?_) fun h1=>?_;have hq:decide (((ckT F (Zb t 0)).ex S).1.ty.kind=4)=false:=by simpa using h1
 refine AU ?_;refine CL (Wh t.pos 7 h) ?_;rintro _ _ ⟨rfl,h,ga⟩;refine RC fun g E=>?_;have k18:=Ul k18;refine AS fun _ ga Ca g E=>?_;have h:=Ub h;have k18:=Ua k18;refine RTN ?_;have e:memR F t (ckY F t) S=((annT t [((ckT F (Zb t 0)).ex S).1] ty0,false),failS t.pos 7 ((ckT F (Zb t 0)).ex S).2):=by unfold memR;show (bif decide (((ckT F (Zb t 0)).ex S).1.ty.kind=4) then _ else _)=_;rw [hq];rfl
 rw [e];exact ⟨⟨_,rfl,Zr (t:=annT t [_] ty0) rfl (Xk (ks:=[_]) ⟨l20,Xa E.g0⟩ E.g0.row (Yc (k18.kdN q18)) (Nat.le_refl _))⟩,h,g⟩;have hq:decide (((ckT F (Zb t 0)).ex S).1.ty.kind=4)=true:=by simpa using h1
 obtain ⟨fv,sv,sn,h⟩:=h;have k18:=k18.low q18;have hfl:=Zbg F ((ckT F (Zb t 0)).ex S).1.ty.name;have hFc:=h.hF;refine Ya (kq (Zj (Xe [3,3,3,0,3,3,0,1,3,3,3,3,3] [true,true,true,true,true,true,true,true,true,true,true,true,true] [0,1,3,7,0,16,48,127,255,511,511,1023,4095] mix (by kernel_rfl) ?_)));have g:=gtd g;replace E:=E.dr;have h:=h.grow (G.drew _);have k18:=k18.grow (G.drew _);refine Zq O (Ql O (Yj Wd O (Vf Zh O O (h.B.row.part 0 9) (Yj Wl O (Yj Ymc O (Yq Yg O (E.g1.at_ O) (CL (Qye F ((ckT F (Zb t 0)).ex S).1.ty.name fv (fun k=>k<n0) _ h.kF h.hF) ?_)))))));rintro _ w39 ⟨⟨l39,rfl,hr39⟩,ga⟩;refine RC fun g E=>?_;have h:=Uk h;have k18:=Uk k18;obtain ⟨p39,c39,rfl,_,_⟩:=id hr39;refine AU ?_;refine Zfa (fun (i:Nat) u1=>(i≤(Zja F ((ckT F (Zb t 0)).ex S).1.ty.name).1.length∧(Zja F ((ckT F (Zb t 0)).ex S).1.ty.name).1.find? (fun f=>decide (f.name=t.text))=((Zja F ((ckT F (Zb t 0)).ex S).1.ty.name).1.drop i).find? (fun f=>decide (f.name=t.text))∧CK F n0 b ((ckT F (Zb t 0)).ex S).2 fv sv sn u1∧RowF fldCells u1 (Zja F ((ckT F (Zb t 0)).ex S).1.ty.name).1 (.slice p39 (Zja F ((ckT F (Zb t 0)).ex S).1.ty.name).1.length c39)∧KdX w.heap.size [b20,b7,b3,b4,b6] u1 ((ckT F (Zb t 0)).ex S).1.kids (.slice p18 ((ckT F (Zb t 0)).ex S).1.kids.length c18))∧GT mutR n0 w39 u1) [(0,True,_),(3,True,_),(4,True,_),(6,True,_),(8,True,_)] (fun (i:Nat)=>[(10,True,.int .i64 i)]) (fun (i:Nat)=>(Zja F ((ckT F (Zb t 0)).ex S).1.ty.name).1.length-i) (0) ⟨⟨Nat.zero_le _,rfl,h,hr39,k18⟩,GT.refl _ _ _⟩ (Za O (Za O (Za O (Za O (Za O (Za O (Zp _))))))) ?_;rintro i u1 ⟨hI1,gl1⟩;have g:=g.trans gl1;replace E:=E.gt gl1 rfl;obtain ⟨hi,hF,h,hr39,k18⟩:=hI1
 refine Zj (Zj (Zm (Zq O (Zq O (Xla Xaa O (Xka O O (Ze (kq (Wm O (fun h2=>?_) (fun h2=>?_))))))))));replace h2:i<(Zja F ((ckT F (Zb t 0)).ex S).1.ty.name).1.length:=by simp only [decide_eq_true_eq] at h2;omega
 have hrf:=Zag hr39 h2;rw [Wuf h2] at hF;refine Ya (kq (Zj (Yv (Zj (Xe [3,3,3,3,0,3,0,3] [true,true,true,true,true,true,true,true] [0,0,3,7,15,0,32,127] mix (by kernel_rfl) ?_)))));have g:=gtd g;have gl1:=gl1.trans (GT.of_g (G.drew _));replace E:=E.dr;have h:=h.grow (G.drew _);have hr39:=hr39.grow (G.drew _);have k18:=k18.grow (G.drew _);refine Zq O (Zq O (Jm Xaa O O (by omega) hrf.1 (Yj Qsb O (Yq Yg O ((hrf.2.grow (G.drew _)).one (i:=0) O) (Yj Yn O (Yq Yg O (E.g4.at_ O) (Qsd O O (Ze (kq (Wm O (fun h3=>?_) (fun h3=>?_)))))))))));rw [h3,cond_true] at hF;refine Zj (Zm (Zq O (Zq O (Jm Xaa O O (by omega) hrf.1 (Yj Qtb O (Vf Xb O O ((hrf.2.grow (G.drew _)).part 1 2) (Yj Wl O (Xi O Wi (Zc O) (Zc O) O O E.g2 O O ?_))))))));intro wS5 hgS5 _ BS;have C6:=E.g2;replace E:=E.s2 hgS5 BS;have g:=Wo g hgS5 (by omega);first|replace gl1:=Wo gl1 hgS5 (by omega)|clear gl1|skip
 have h:=h.keep hgS5 C6 rfl (by omega);have k18:=k18.keep hgS5 (by simp);refine AS fun _ ga Ca g E=>?_;first|replace gl1:=Wo gl1 ga (by omega)|clear gl1|skip
 have h:=Ub h;have k18:=Ua k18;refine RTN ?_
 have e:memR F t (ckY F t) S=((annT t [((ckT F (Zb t 0)).ex S).1] (Zja F ((ckT F (Zb t 0)).ex S).1.ty.name).1[i].ty,true),((ckT F (Zb t 0)).ex S).2):=by
  unfold memR;show (bif decide (((ckT F (Zb t 0)).ex S).1.ty.kind=4) then _ else _)=_;rw [hq,cond_true];show (match (Zja F ((ckT F (Zb t 0)).ex S).1.ty.name).1.find? (fun f=>decide (f.name=t.text)) with|some f=>_|none=>_)=_;rw [hF];rfl
 rw [e];exact ⟨⟨_,rfl,Zr (t:=annT t [_] _) rfl (Xk (ks:=[_]) ⟨l20,Xa E.g0⟩ E.g0.row (Yc (k18.kdN (Nat.le_refl _))) (Nat.le_refl _))⟩,h.chk,g⟩;rw [h3,cond_false] at hF;refine AU ?_;refine SK [10,0,3,4,6,8] ?_;refine Ze (fun a ha=>?_);exact ⟨i+1,ha,⟨⟨h2,hF,h,hr39,k18⟩,gl1⟩,by omega⟩;replace h2:i=(Zja F ((ckT F (Zb t 0)).ex S).1.ty.name).1.length:=by simp only [decide_eq_false_iff_not] at h2;omega
 subst h2;rw [List.drop_length] at hF;refine AU ?_;refine CL (Wh t.pos 5 h.chk) ?_;rintro _ _ ⟨rfl,h,ga⟩;refine RC fun g E=>?_;have gl1:=gl1.trans ga;have k18:=Ul k18;refine AS fun _ ga Ca g E=>?_;first|replace gl1:=Wo gl1 ga (by omega)|clear gl1|skip
 have h:=Ub h;have k18:=Ua k18;refine RTN ?_
 have e:memR F t (ckY F t) S=((annT t [((ckT F (Zb t 0)).ex S).1] ty0,false),failS t.pos 5 ((ckT F (Zb t 0)).ex S).2):=by
  unfold memR;show (bif decide (((ckT F (Zb t 0)).ex S).1.ty.kind=4) then _ else _)=_;rw [hq,cond_true];show (match (Zja F ((ckT F (Zb t 0)).ex S).1.ty.name).1.find? (fun f=>decide (f.name=t.text)) with|some f=>_|none=>_)=_;rw [hF];rfl
 rw [e];exact ⟨⟨_,rfl,Zr (t:=annT t [_] ty0) rfl (Xk (ks:=[_]) ⟨l20,Xa E.g0⟩ E.g0.row (Yc (k18.kdN (Nat.le_refl _))) (Nat.le_refl _))⟩,h,g⟩
set_option maxHeartbeats 2000000
theorem CkM.to{F t:Nd}(H:CkM F t){n0 b:Nat}{S:CSt}{w:World}{v:Value}{N m0:Nat}(Z:List Nat)(h:Chk F n0 b S w)(hk:Kd w (fun k=>k<n0) t.kids v)(hb:Bd S N)(hc:N+count t≤1000000)(hZ:∀ j∈Z,j<w.heap.size)(hm:m0≤w.heap.size) :
 Ret PP Uga #[.pointer (some ⟨b,0,none⟩),ndV t v] w fun r w'=>(∃ p c,r = .tuple #[ndV ((ckT F t).mem S).1.1 (.slice p ((ckT F t).mem S).1.1.kids.length c),.bool ((ckT F t).mem S).1.2]∧m0≤w.heap.size∧KdX w.heap.size Z w' ((ckT F t).mem S).1.1.kids (.slice p ((ckT F t).mem S).1.1.kids.length c))∧Chk F n0 b ((ckT F t).mem S).2 w'∧GT mutR n0 w w' :=
 (H h hk hb hc).mono fun r w' hr=>by
 obtain ⟨⟨u,e,p,c,e2,k⟩,h1,h2⟩:=hr;subst e2;exact ⟨⟨p,c,e,hm,KdN.x k hZ⟩,h1,h2⟩
theorem Jbe(F:Nd)(S:CSt)(t:Nd):(lookR F S t).1.kids=[]:=by
 unfold lookR
 cases Jeb S.vars t.text with
 | some v=>rfl
 | none =>
  dsimp only;cases decide (0≤(findD F 6 t.text).2);cases decide (0≤(findD F 4 t.text).2) <;> rfl
  rfl
theorem lookN{F:Nd}{S:CSt}{t:Nd}(lo:Nat)(w:World):KdN lo w (lookR F S t).1.kids (.slice none 0 0):=by rw [Jbe];exact Wv _ _
theorem Zcg{F t:Nd}(H:FSh F)(K:∀ i,i<t.kids.length→CkOk F (Zb t i))(HC:t.kind=30→CkC F Qna t (callR t (ckX F t)))(hx:exprB t=true):CkC F Ux t (ckT F t).ex:=by
 intro n0 b S w v N h hk0 hb hcn;have est:(ckT F t).ex S=exR F t (ckX F t) S:=by rw [Yva];rfl
 rw [est];obtain ⟨p,c,rfl,_⟩:=id hk0;have hlt:=h.lt;have ct:=Un t;have g:=GT.refl mutR n0 w;refine WK 110 [0,1] Vub ?_;refine BM fun b3 _ ga _ g E=>?_;have h:=Ui h;have hk0:=Ui hk0;refine AN fun b4 _ ga _ g E=>?_;have h:=Ui h;have hk0:=Ui hk0;refine AU ?_;refine CL (Vn t _ _ _) ?_;rintro _ _ ⟨rfl,ga⟩;refine RC fun g E=>?_;have h:=Uk h;have hk0:=Uk hk0;refine AN fun b5 _ ga _ g E=>?_;have h:=Ui h;have hk0:=Ui hk0;refine AS fun _ ga Ca g E=>?_;have h:=Ub h;have hk0:=Ud hk0;refine IF (fun h1=>?_) fun h1=>?_;replace h1:t.kind=24:=of_decide_eq_true h1;refine AS fun _ ga Ca g E=>?_;have h:=Ub h;refine AS fun _ ga Ca g E=>?_;have h:=Ub h;refine RTN ?_;have e:exR F t (ckX F t) S=(annT t [] tInt,S):=by unfold exR;rw [Ywh h1];rfl
 rw [e];exact ⟨Zr (t:=annT t [] tInt) rfl (Wv _ _),h,g⟩;replace h1:t.kind≠24:=of_decide_eq_false h1;refine IF (fun h2=>?_) fun h2=>?_;replace h2:t.kind=25:=of_decide_eq_true h2;refine AS fun _ ga Ca g E=>?_;have h:=Ub h;refine AS fun _ ga Ca g E=>?_;have h:=Ub h;refine RTN ?_;have e:exR F t (ckX F t) S=(annT t [] tBool,S):=by unfold exR;rw [Yvh h1,Ywh h2];rfl
 rw [e];exact ⟨Zr (t:=annT t [] tBool) rfl (Wv _ _),h,g⟩;replace h2:t.kind≠25:=of_decide_eq_false h2;refine IF (fun h3=>?_) fun h3=>?_;replace h3:t.kind=26:=of_decide_eq_true h3;refine AS fun _ ga Ca g E=>?_;have h:=Ub h;refine AS fun _ ga Ca g E=>?_;have h:=Ub h;refine RTN ?_;have e:exR F t (ckX F t) S=(annT t [] tNil,S):=by unfold exR;rw [Yvh h1,Yvh h2,Ywh h3];rfl
 rw [e];exact ⟨Zr (t:=annT t [] tNil) rfl (Wv _ _),h,g⟩;replace h3:t.kind≠26:=of_decide_eq_false h3;refine IF (fun h4=>?_) fun h4=>?_;replace h4:t.kind=38:=of_decide_eq_true h4;refine AU ?_;refine CL (CkC.to (Wxe K h4 hx) [b3,b4,b5] h hk0 hb hcn (E.ltm (by simp [selB])) g.size) ?_;rintro _ _ ⟨⟨p35,c35,rfl,q35,k35⟩,h,ga⟩;refine RC fun g E=>?_;refine AS fun _ ga Ca g E=>?_;have h:=Ub h;have k35:=Ua k35;refine RTN ?_;have hl:=(sh38 h4 hx).1
 have e:exR F t (ckX F t) S=litR t (ckY F t) S:=by
  unfold exR;rw [Yvh h1,Yvh h2,Yvh h3,Ywh h4];show litR t (ckX F t) S=_;unfold litR;rw [Vt (show 0<t.kids.length by omega)];rfl
 rw [e];exact ⟨Zr rfl (k35.kdN q35),h,g⟩;replace h4:t.kind≠38:=of_decide_eq_false h4;refine IF (fun h5=>?_) fun h5=>?_;replace h5:t.kind=30:=of_decide_eq_true h5;refine AU ?_;refine CL (CkC.to (HC h5) [b3,b4,b5] h hk0 hb hcn (E.ltm (by simp [selB])) g.size) ?_;rintro _ _ ⟨⟨p40,c40,rfl,q40,k40⟩,h,ga⟩;refine RC fun g E=>?_;refine AS fun _ ga Ca g E=>?_;have h:=Ub h;have k40:=Ua k40;refine RTN ?_;have e:exR F t (ckX F t) S=callR t (ckX F t) S:=by unfold exR;rw [Yvh h1,Yvh h2,Yvh h3,Yvh h4,Ywh h5];rfl
 rw [e];exact ⟨Zr rfl (k40.kdN q40),h,g⟩;replace h5:t.kind≠30:=of_decide_eq_false h5;refine IF (fun h6=>?_) fun h6=>?_;replace h6:t.kind=27:=of_decide_eq_true h6;refine AU ?_;refine CL (Xoc H t _ _ h hb (by omega)) ?_;rintro _ _ ⟨rfl,ga⟩;refine RC fun g E=>?_;have h:=Uk h;refine AN fun _ _ ga _ g E=>?_;have h:=Ui h;refine AS fun _ ga Ca g E=>?_;have h:=Ub h;refine IF (fun h7=>?_) fun h7=>?_;have hr:(lookR F S t).2=false:=by simpa using h7
 refine AU ?_;refine CL (Wh t.pos 5 h) ?_;rintro _ _ ⟨rfl,h,ga⟩;refine RC fun g E=>?_;refine AS fun _ ga Ca g E=>?_;have h:=Ub h;refine RTN ?_
 have e:exR F t (ckX F t) S=((lookR F S t).1,failS t.pos 5 S):=by
  unfold exR;rw [Yvh h1,Yvh h2,Yvh h3,Yvh h4,Yvh h5,Ywh h6];show ((lookR F S t).1,bif (lookR F S t).2 then failU (Jt (lookR F S t).1.ty) t.pos 7 S else failS t.pos 5 S)=_;rw [hr];rfl
 rw [e];exact ⟨Zr (t:=(lookR F S t).1) rfl (lookN _ _),h,g⟩;have hr:(lookR F S t).2=true:=by simpa using h7
 refine AU ?_;refine CP (Jfa _ _) (fun w57 g57=>?_);have g:=gtg g g57;replace E:=E.grow g57;have h:=h.grow (g57);refine IF (fun h8=>?_) fun h8=>?_;have hv:Jt (lookR F S t).1.ty=false:=by simpa using h8
 refine AU ?_;refine CL (Wh t.pos 7 h) ?_;rintro _ _ ⟨rfl,h,ga⟩;refine RC fun g E=>?_;refine AS fun _ ga Ca g E=>?_;have h:=Ub h;refine RTN ?_
 have e:exR F t (ckX F t) S=((lookR F S t).1,failS t.pos 7 S):=by
  unfold exR;rw [Yvh h1,Yvh h2,Yvh h3,Yvh h4,Yvh h5,Ywh h6];show ((lookR F S t).1,bif (lookR F S t).2 then failU (Jt (lookR F S t).1.ty) t.pos 7 S else failS t.pos 5 S)=_;rw [hr,hv];rfl
 rw [e];exact ⟨Zr (t:=(lookR F S t).1) rfl (lookN _ _),h,g⟩;have hv:Jt (lookR F S t).1.ty=true:=by simpa using h8
 refine AS fun _ ga Ca g E=>?_;have h:=Ub h;refine RTN ?_
 have e:exR F t (ckX F t) S=((lookR F S t).1,S):=by
  unfold exR;rw [Yvh h1,Yvh h2,Yvh h3,Yvh h4,Yvh h5,Ywh h6];show ((lookR F S t).1,bif (lookR F S t).2 then failU (Jt (lookR F S t).1.ty) t.pos 7 S else failS t.pos 5 S)=_;rw [hr,hv];rfl
 rw [e];exact ⟨Zr (t:=(lookR F S t).1) rfl (lookN _ _),h,g⟩;replace h6:t.kind≠27:=of_decide_eq_false h6;refine IF (fun h9=>?_) fun h9=>?_;replace h9:t.kind=28:=of_decide_eq_true h9;refine AU ?_;refine CL (CkM.to (Xxd K h9 hx) [b3,b4,b5] h hk0 hb hcn (E.ltm (by simp [selB])) g.size) ?_;rintro _ _ ⟨⟨p69,c69,rfl,q69,k69⟩,h,ga⟩;refine RC fun g E=>?_;refine AN fun _ _ ga _ g E=>?_;have k69:=Uj k69;have h:=Ui h;refine AS fun _ ga Ca g E=>?_;have h:=Ub h;have k69:=Ua k69;refine AU ?_;refine CG (fun hc=>Jfa _ _) (fun w76 g76=>?_);have g:=gtg g g76;replace E:=E.grow g76;have h:=h.grow (g76);have k69:=k69.grow (g76);refine IF (fun h10=>?_) fun h10=>?_;(try simp only [bsimp] at h10);refine AU ?_;refine CL (Wh t.pos 7 h) ?_;rintro _ _ ⟨rfl,h,ga⟩;refine RC fun g E=>?_;have k69:=Ul k69;refine AS fun _ ga Ca g E=>?_;have h:=Ub h;have k69:=Ua k69;refine RTN ?_
 have e:exR F t (ckX F t) S=(((ckT F t).mem S).1.1,failU (!(((ckT F t).mem S).1.2 && !Jt ((ckT F t).mem S).1.1.ty)) t.pos 7 ((ckT F t).mem S).2):=by
  have em:((ckT F t).mem S)=memR F t (ckX F t) S:=by rw [Yva];rfl
  rw [em];unfold exR;rw [Yvh h1,Yvh h2,Yvh h3,Yvh h4,Yvh h5,Yvh h6,Ywh h9];rfl
 rw [e,h10];exact ⟨Zr rfl (k69.kdN q69),h,g⟩;refine AS fun _ ga Ca g E=>?_;have h:=Ub h;have k69:=Ua k69;refine RTN ?_
 have e:exR F t (ckX F t) S=(((ckT F t).mem S).1.1,failU (!(((ckT F t).mem S).1.2 && !Jt ((ckT F t).mem S).1.1.ty)) t.pos 7 ((ckT F t).mem S).2):=by
  have em:((ckT F t).mem S)=memR F t (ckX F t) S:=by rw [Yva];rfl
  rw [em];unfold exR;rw [Yvh h1,Yvh h2,Yvh h3,Yvh h4,Yvh h5,Yvh h6,Ywh h9];rfl
 rw [e,h10];exact ⟨Zr rfl (k69.kdN q69),h,g⟩;replace h9:t.kind≠28:=of_decide_eq_false h9;refine IF (fun h11=>?_) fun h11=>?_;replace h11:t.kind=34:=of_decide_eq_true h11;obtain ⟨fv,sv,sn,h⟩:=h;refine AU ?_;refine Xu (rowR none) [3,3,3,0,3,0,1,3,3,3,1,2,3] [0,1,3,7,0,16,63,127,255,255,0,1535,4095] mix (by kernel_rfl) [0,1,2,3,4,5,6,7,8,9,10,11,12] O ?_;have g:=gtd g;replace E:=E.dr;have h:=h.grow (G.drew _);refine Zx 0 O O (fun _=>Zl (Zc O)) (Zx 1 O O (fun _=>Jo (Zc O)) (Zx 2 O O (fun _=>Zn Wd (Zc O)) (Wf 3 O O (fun w1 hx=>Zy Zh (Zc O) O (fun _=>(h.B.keep hx (by intro q;first|(injection q with q;omega)|cases q)).row.part 0 9)) (Zx 4 O O (fun _=>Zn Yn (Zc O)) (Wf 5 O O (fun w1 hx=>Zt Yg (Zc O) (fun _=>(E.g2.keep hx (fun h=>nomatch h)).at_ O)) (Uua 6 10 O O ?_ ?_))))));refine Zw (L':=[7,8,9,10,11,12]) [3,3,3,0,3,0,1,3,3,3,1,2,3] rfl rfl rfl ?_;refine CL (Yoa F fv _ _ 2 t.text h.kF h.hF) ?_;rintro v93 w93 ⟨⟨p93,c93,rfl,hk93⟩,g93⟩;refine ⟨fun _=>g93,?_⟩;have g:=gtg g g93;replace E:=E.grow g93;have h:=h.grow (g93);refine Yi ((g93).only _) ?_;refine Zx 7 O O (fun _=>Zl (Zc O)) (Zx 8 O O (fun _=>Xs (Zc O) O) (Zx 9 O O (fun _=>Xs (Zc O) O) (Zv 10 O O ?_)));refine Zw (L':=[11,12]) [3,3,3,0,3,0,1,3,3,3,1,2,3] O O O ?_;refine AN fun _ _ N10 l10 g E=>?_;have h:=h.grow (N10.g);refine Yi ((N10.g).only _) ?_;refine Zv 11 O O ?_;refine Yf (L':=[12]) [3,3,3,0,3,0,1,3,3,3,1,2,3] O O O O ?_;refine AS fun _ ga Ca g E=>?_;have h:=Ub h;refine Yx ?_;refine Zx 12 O O (fun _=>Yt (Zc O)) (TK [0,3,4,5,11] (Qk (kq (Zj (Zm (Zq O (Xka O O (Ze (kq (Wm O (fun h12=>?_) (fun h12=>?_)))))))))))
 have hr:decide ((findD F 2 t.text).2<0)=true:=by simpa using h12
 refine Zm (Zq O (Yj Wia O (Yq Yd O (E.g3.at_ O) (CL (Wh t.pos 5 h.chk) ?_))));rintro _ _ ⟨rfl,h,ga⟩;refine RC fun g E=>?_;refine Ze (kq (Zj (Zm (Yj Yn O (Yq Yg O (E.g3.at_ O) (Zba Wn Ve (pqc O (pqc O pq0)) O O (Yj Wl O (Xi O Wi (Zc O) (Zc O) O O E.g1 O O ?_))))))));intro wS18 hgS18 _ BS;have C5:=E.g1;replace E:=E.s1 hgS18 BS;have g:=Wo g hgS18 (by omega);have h:=h.keep hgS18 C5 rfl (by omega);refine AS fun _ ga Ca g E=>?_;have h:=Ub h;refine Ze (kq (Xd (Qrd O (Jd O Zh O (E.g2.row) (Wz)) ?_)))
 have e:exR F t (ckX F t) S=(annT t [] ⟨4,t.text⟩,failS t.pos 5 S):=by
  unfold exR;rw [Yvh h1,Yvh h2,Yvh h3,Yvh h4,Yvh h5,Yvh h6,Yvh h9,Ywh h11];show (annT t [] ⟨4,t.text⟩,failU (!decide ((findD F 2 t.text).2<0)) t.pos 5 S)=_;rw [hr];rfl
 rw [e];exact ⟨Zr (t:=annT t [] ⟨4,t.text⟩) rfl (Wv _ _),h,g⟩;have hr:decide ((findD F 2 t.text).2<0)=false:=by simpa using h12
 refine Ya (kq (Zj (Zm (Yj Yn O (Yq Yg O (E.g3.at_ O) (Zba Wn Ve (pqc O (pqc O pq0)) O O (Yj Wl O (Xi O Wi (Zc O) (Zc O) O O E.g1 O O ?_))))))));intro wS20 hgS20 _ BS;have C5:=E.g1;replace E:=E.s1 hgS20 BS;have g:=Wo g hgS20 (by omega);have h:=h.keep hgS20 C5 rfl (by omega);refine AS fun _ ga Ca g E=>?_;have h:=Ub h;refine RTN ?_
 have e:exR F t (ckX F t) S=(annT t [] ⟨4,t.text⟩,S):=by
  unfold exR;rw [Yvh h1,Yvh h2,Yvh h3,Yvh h4,Yvh h5,Yvh h6,Yvh h9,Ywh h11];show (annT t [] ⟨4,t.text⟩,failU (!decide ((findD F 2 t.text).2<0)) t.pos 5 S)=_;rw [hr];rfl
 rw [e];exact ⟨Zr (t:=annT t [] ⟨4,t.text⟩) rfl (Wv _ _),h.chk,g⟩;refine Zw (L':=[6,7,8,9,11,12]) [3,3,3,0,3,0,1,3,3,3,1,2,3] rfl rfl rfl ?_;refine AN fun _ _ N10 _ g E=>?_;have h:=h.grow (N10.g);refine Yi ((N10.g).only _) ?_;refine Zv 6 O O ?_;refine Zw (L':=[7,8,9,11,12]) [3,3,3,0,3,0,1,3,3,3,1,2,3] O O O ?_;refine CL (Yoa F fv _ _ 2 t.text h.kF h.hF) ?_;rintro v93 w93 ⟨⟨p93,c93,rfl,hk93⟩,g93⟩;refine ⟨fun _=>g93,?_⟩;have g:=gtg g g93;replace E:=E.grow g93;have h:=h.grow (g93);refine Yi ((g93).only _) ?_;refine Zx 7 O O (fun _=>Zl (Zc O)) (Zx 8 O O (fun _=>Xs (Zc O) O) (Zx 9 O O (fun _=>Xs (Zc O) O) (Zv 11 O O ?_)));refine Yf (L':=[12]) [3,3,3,0,3,0,1,3,3,3,1,2,3] O O O O ?_;refine AS fun _ ga Ca g E=>?_;have h:=Ub h;refine Yx ?_;refine Zx 12 O O (fun _=>Yt (Zc O)) (TK [0,3,4,5,11] (Qk (kq (Zj (Zm (Zq O (Xka O O (Ze (kq (Wm O (fun h12=>?_) (fun h12=>?_)))))))))));have hr:decide ((findD F 2 t.text).2<0)=true:=by simpa using h12
 refine Zm (Zq O (Yj Wia O (Yq Yd O (E.g3.at_ O) (CL (Wh t.pos 5 h.chk) ?_))));rintro _ _ ⟨rfl,h,ga⟩;refine RC fun g E=>?_;refine Ze (kq (Zj (Zm (Yj Yn O (Yq Yg O (E.g3.at_ O) (Zba Wn Ve (pqc O (pqc O pq0)) O O (Yj Wl O (Xi O Wi (Zc O) (Zc O) O O E.g1 O O ?_))))))));intro wS18 hgS18 _ BS;have C5:=E.g1;replace E:=E.s1 hgS18 BS;have g:=Wo g hgS18 (by omega);have h:=h.keep hgS18 C5 rfl (by omega);refine AS fun _ ga Ca g E=>?_;have h:=Ub h;refine Ze (kq (Xd (Qrd O (Jd O Zh O (E.g2.row) (Wz)) ?_)))
 have e:exR F t (ckX F t) S=(annT t [] ⟨4,t.text⟩,failS t.pos 5 S):=by
  unfold exR;rw [Yvh h1,Yvh h2,Yvh h3,Yvh h4,Yvh h5,Yvh h6,Yvh h9,Ywh h11];show (annT t [] ⟨4,t.text⟩,failU (!decide ((findD F 2 t.text).2<0)) t.pos 5 S)=_;rw [hr];rfl
 rw [e];exact ⟨Zr (t:=annT t [] ⟨4,t.text⟩) rfl (Wv _ _),h,g⟩;have hr:decide ((findD F 2 t.text).2<0)=false:=by simpa using h12
 refine Ya (kq (Zj (Zm (Yj Yn O (Yq Yg O (E.g3.at_ O) (Zba Wn Ve (pqc O (pqc O pq0)) O O (Yj Wl O (Xi O Wi (Zc O) (Zc O) O O E.g1 O O ?_))))))));intro wS20 hgS20 _ BS;have C5:=E.g1;replace E:=E.s1 hgS20 BS;have g:=Wo g hgS20 (by omega);have h:=h.keep hgS20 C5 rfl (by omega);refine AS fun _ ga Ca g E=>?_;have h:=Ub h;refine RTN ?_
 have e:exR F t (ckX F t) S=(annT t [] ⟨4,t.text⟩,S):=by
  unfold exR;rw [Yvh h1,Yvh h2,Yvh h3,Yvh h4,Yvh h5,Yvh h6,Yvh h9,Ywh h11];show (annT t [] ⟨4,t.text⟩,failU (!decide ((findD F 2 t.text).2<0)) t.pos 5 S)=_;rw [hr];rfl
 rw [e];exact ⟨Zr (t:=annT t [] ⟨4,t.text⟩) rfl (Wv _ _),h.chk,g⟩;replace h11:t.kind≠34:=of_decide_eq_false h11;refine AU ?_;refine CL (CkC.to (Jug K hx ⟨h1,h2,h3,h6,h11,h9,h5,h4⟩) [b3,b4,b5] h hk0 hb hcn (E.ltm (by simp [selB])) g.size) ?_;rintro _ _ ⟨⟨p109,c109,rfl,q109,k109⟩,h,ga⟩;refine RC fun g E=>?_;refine AS fun _ ga Ca g E=>?_;have h:=Ub h;have k109:=Ua k109;refine RTN ?_;have hl:=(Jxf hx ⟨h1,h2,h3,h6,h11,h9,h5,h4⟩).1
 have e:exR F t (ckX F t) S=opR t (ckY F t) S:=by
  have e0:exR F t (ckX F t) S=opR t (ckX F t) S:=by unfold exR;rw [Yvh h1,Yvh h2,Yvh h3,Yvh h4,Yvh h5,Yvh h6,Yvh h9,Yvh h11];rfl
  rw [e0];unfold opR;rw [Vt (show 0<t.kids.length by omega)];by_cases k29:t.kind=29;have:=(sh29 k29 hx).1;rw [Vt (show 1<t.kids.length by omega)];rfl;by_cases k32:t.kind=32;have:=(sh32 k32 hx).2.1;rw [Vt (show 1<t.kids.length by omega)];rfl;rw [Yvh k29,Yvh k32];rfl
 rw [e];exact ⟨Zr rfl (k109.kdN q109),h,g⟩
def Byt(w:World)(b:Nat)(e:TypeId)(l:List UInt8):Prop:=∃ cs lo hi,w.heap[b]? = some (.cells cs e (lo,hi))∧(∀ (j:Nat) (v:Value),(Lib.byteCells l)[j]? = some v→cs[j]? = some v)∧(hi=0∨l.length≤lo)
theorem Byt.row{w:World}{b:Nat}{e:TypeId}{l:List UInt8}(h:Byt w b e l):RowAt w b 0 (Lib.byteCells l):=by
 obtain ⟨cs,lo,hi,hb,hc,_⟩:=h;intro j v hj;rw [Nat.zero_add];simp [World.cell?,hb,hc j v hj]
theorem Byt.lt{w:World}{b:Nat}{e:TypeId}{l:List UInt8}(h:Byt w b e l):b<w.heap.size:=by
 obtain ⟨cs,lo,hi,hb,_⟩:=h;exact (Array.getElem?_eq_some_iff.mp hb).1
theorem Byt.keep{w w1:World}{b:Nat}{e:TypeId}{l:List UInt8}{row:Option Nat}(h:Byt w b e l)(hg:w.grownBy w1 row)(hne:some b≠row):Byt w1 b e l:=by
 have hlt:=h.lt;obtain ⟨cs,lo,hi,hb,hc,hf⟩:=h;exact ⟨cs,lo,hi,by obtain ⟨_,_,_,_,ho⟩:=hg;rw [ho b hlt hne];exact hb,hc,hf⟩
theorem Byt.grow{w w1:World}{b:Nat}{e:TypeId}{l:List UInt8}(h:Byt w b e l)(hg:G w w1):Byt w1 b e l:=h.keep (hg.only none) (by intro e;cases e)
section
variable {P:Program} {n:Nat} {σ:List Ent} {c:Prop} {wb:World} {ty:TypeId}
end
section
variable {P:Program} {Z:List PanicEntry→Act→World→Prop} {ops:List Oper} {cl:List Nat} {lv:List Bool} {W0:World} {n:Nat} {K:Act→World→Prop} {k:Nat} {rest:List Oper} {σ:List Ent} {w:World} {d:Nat} {ty:TypeId} {pos:String} {after:Array Edge}
theorem Qed{t e z by_:Nat}(hb:(!Nat.beq (clOf cl k) 0 && !Nat.beq (clOf cl k) 3&&Nat.blt d n)=true)(ht:tyElem P t=some (e,z,by_))
 (h:∀ b w1,b=w.heap.size→(∀ base,base≤w.heap.size→w1.ownsRow base e z (.slice (some ⟨b,0,none⟩) 0 0) 0 [])→G w w1→SR P Z ops cl lv W0 n K (k+1) rest ((d,True,.slice (some ⟨b,0,none⟩) 0 0) :: σ) w1) :
 SR P Z ops cl lv W0 n K k (⟨some d,.buildSlice t 0 #[],ty,pos,after,none⟩::rest) σ w:=by
 obtain ⟨hu,i,hi,hsz,hbyi⟩:=Uy ht;have hN:=Yea w e [];refine Zzb hb (w':=w.alloc (.cells #[] e)) (fun d pos after g a ha _=>?_) (fun _=>hN.g) (h _ _ O (fun base hbase=>World.ownsRow_lit w #[] 0 hbase (Nat.zero_le _) (by simp)) hN.g);have hr0:Array.range 0 = #[]:=by decide
 simp [execOp,Instr.buildSlice,run_underlying hu,Zqd hi,Instr.fill,newRow,hr0]
theorem Jce{t e z by_ m q cp b:Nat}{x y:Operand}{o:Option Addr}(hb:(Nat.beq (clOf cl k) 2&&Nat.blt d n)=true)(ht:tyElem P t=some (e,z,by_))(hx:Ev n σ True x (.slice (some ⟨b,0,none⟩) m cp))(hm:m≤cp)(hy:Ev n σ True y (.slice o 0 q))
 (h:SR P Z ops cl lv W0 n K (k+1) rest ((d,True,.slice (some ⟨b,0,none⟩) m cp) :: σ) w) :
 SR P Z ops cl lv W0 n K k (⟨some d,.call { callee:=.builtin .append,args:=#[x,y],argTypes:=#[t,t] },ty,pos,after,none⟩::rest) σ w:=by
 obtain ⟨hu,i,hi,hsz,hbyi⟩:=Uy ht;simp only [Bool.and_eq_true] at hb;have hc:=Nat.eq_of_beq_eq_true hb.1;refine Zzb (w':=w) (by rw [hc,hb.2];rfl) (fun d pos after g a ha _=>?_) (fun hh=>by omega) h
 have hr:(Builtin.append_ #[t,t] ty #[.slice (some ⟨b,0,none⟩) m cp,.slice o 0 q]).run P w = .ok (.slice (some ⟨b,0,none⟩) m cp) w:=by
  cases o <;> simp [Builtin.append_,run_underlying hu,Zqd hi,Builtin.lenOf,Builtin.firstCells,hm,loadCells,loadCellsFrom,storeCells]
 simp only [execOp,resolve,invoke,builtin,Sem.run_bind,Sem.run_pure,Result.andThen_ok,List.map_toArray,List.map_cons,List.map_nil,hx a ha trivial,hy a ha trivial,hr]
theorem Zwe(w:World)(row:Option Nat):w.grownBy w row:=(G.refl w).only row
theorem Xyd{t e z by_ base m q q' cp b:Nat}{x y:Operand}{zv:Value}{xs news:List Value}{o:Option Addr}(hb:(Nat.beq (clOf cl k) 2&&Nat.blt d n)=true)(ht:tyElem P t=some (e,z,by_))(hzv:zeroOf P e=some zv)
 (hzs:zv.cells.size=z) (hz0:0<z) (hx:Ev n σ True x (.slice (some ⟨b,0,none⟩) m cp)) (hown:w.ownsRow base e z (.slice (some ⟨b,0,none⟩) m cp) m xs) (hy:Ev n σ True y (.slice o q q')) (hl:news.length=q*z) (hn:0<q→∃ b' o',o=some ⟨b',o',none⟩∧RowAt w b' o' news) (h1:∀ u∈news,u.oneCell'=true)
 (h63:m+q≤maxLen) (hby:(m+q)*by_≤140737488355328) (hbase:base≤w.heap.size)
 (h:∀ a' c' w',w'.ownsRow base e z (.slice a' (m+q) c') (m+q) (xs++news)→w.grownBy w' (Value.slice (some ⟨b,0,none⟩) m cp).ownBlock→SR P Z ops cl lv W0 n K (k+1) rest ((d,True,.slice a' (m+q) c') :: σ) w') :
 SR P Z ops cl lv W0 n K k (⟨some d,.call { callee:=.builtin .append,args:=#[x,y],argTypes:=#[t,t] },ty,pos,after,none⟩::rest) σ w:=by
 rcases Nat.eq_zero_or_pos q with h0|h0;subst h0;have hnil:news=[]:=List.eq_nil_of_length_eq_zero (by simpa using hl);subst hnil;obtain ⟨a,c,hv,hmc⟩:=Vja hown;injection hv with _ _ hv;subst hv;refine Jce hb ht hx hmc hy ?_;exact h _ _ w (by simpa using hown) (Zwe w _);obtain ⟨b',o',rfl,hr⟩:=hn h0;obtain ⟨hu,i,hi,hsz,hbyi⟩:=Uy ht;obtain ⟨i',hi',hz'⟩:=Wxa hzv;obtain rfl:i=i':=Option.some.inj (hi.symm.trans hi');simp only [Bool.and_eq_true] at hb;have hc:=Nat.eq_of_beq_eq_true hb.1;obtain ⟨s',w',r1,r2,r3,_⟩:=run_append_own (P:=P) w base t ty e i zv z by_ hu hi hz' hsz hbyi hzs hz0 _ m xs hown ⟨b',o',none⟩ q q' news hl (fun j u hj=>by rw [Addr.add_lit];exact hr j u hj) h1 h63 hby hbase
 obtain ⟨a',c',hs'⟩:∃ a' c',s' = .slice a' (m+q) c':=by
  rcases r2.2 with ⟨q1,q2⟩|⟨g,cap,cur,q1,_⟩;exact ⟨none,0,by rw [q1,q2]⟩;exact ⟨_,cap,q1⟩
 subst hs';refine Zzb (w':=w') (by rw [hc,hb.2];rfl) (fun d pos after g a ha _=>?_) (fun hh=>by omega) (h a' c' w' r2 r3);simp only [execOp,resolve,invoke,builtin,Sem.run_bind,Sem.run_pure,Result.andThen_ok,List.map_toArray,List.map_cons,List.map_nil,hx a ha trivial,hy a ha trivial,r1]
end
end Go.Rk
