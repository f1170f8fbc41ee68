/- Merged texts. Conditions: each text's own. -/
import Derived.Test.YtddkmmfmmamipaaGreatDoorM01
import Derived.Shelf.LaysC
import Derived.Shelf.Strconv.ParseIntPublic10
import Derived.KernelRfl
set_option linter.unusedSimpArgs false
set_option linter.unusedVariables false
set_option maxHeartbeats 16000000
set_option maxRecDepth 100000
open Array renaming getElem?_append→HJ
open Bool renaming and_eq_true_iff→AN,not_true→Cl,not_false→Cr,or_false→Dg,and_eq_true→Dv,or_eq_false_iff→EG,or_eq_true→Gz,true_and→HZ,and_eq_false_iff→It
open Go renaming World→Ad,TypeId→Aw,PanicEntry→Bd,Operand→A7,Program→BH,Value→Ak
open Go.Region renaming wanted→Dt
open Go.Result renaming andThen_ok→Ij
open Go.Value renaming slice→Ez
open List renaming getElem?_eq_getElem→Bh,getD_eq_getElem?_getD→CW,length_append→DF,any_cons→Eb,any_nil→Ei,length_take→E1,flatMap_cons→Fe,length_cons→FB,all_eq_true→Fy,range→FS,mem_cons_self→F9,length_drop→Gg,getElem_of_mem→Gx,getElem_mem→GB,getElem?_eq_some_iff→Hf,getElem?_take→HA,getElem?_toArray→HN,forall_mem_cons→Ih,sum_append→Ic,take_add_one→Ik,drop_of_length_le→Jb,drop_eq_getElem_cons→Jo,mem_cons_of_mem→I4,take_succ_cons→Jm,find?_eq_some_iff_getElem→Ka,find?_eq_none→J9,length_eq_zero_iff→Ke,mem_drop_iff_getElem→LD,take_of_length_le→Lz
open Nat renaming beq→Ap,le_refl→BM,blt→CQ,zero_le→DV,eq_of_beq_eq_true→FP,sub_zero→G0,not_lt_zero→IG
open Decidable renaming decide→Ae
namespace Go.Proofs
end Go.Proofs
namespace Go.Rk
open Go.Proofs
open Go Go.RowKit
def Kw(P:BH)(fn:Func)(G':Ak→Ad→Prop)(Rp:List Bd→Ad→Prop):ET:=fun ds a w=>LeavesInM Fence.wide 0 P fn a.tmps (Ww G' Rp) ds .returning w
def Mu(P:BH)(fn:Func)(G':Ak→Ad→Prop)(Rp:List Bd→Ad→Prop)(ch:List Bd):ET:=fun ds a w=>LeavesInM Fence.wide 0 P fn a.tmps (Ww G' Rp) ds (.panicking ch) w
theorem Sb{P:BH}{f:FuncId}{fn:Func}{c:Code}{args:List Ak}{w:Ad}{G':Ak→Ad→Prop}{Rp:List Bd→Ad→Prop}{m:Nat}(hf:P.funcs[f]? = some fn)(hb:fn.body=some c)(hm:args.length+(fn.ntmps-args.length)=m)
 (σ0:List Ce) (hs:Hs σ0 (JY 0 args)) (hh:Gh P none m [] c (Kw P fn G' Rp) [] (Kw P fn G' Rp) (Mu P fn G' Rp) σ0 w):Gj P f args.toArray w G' Rp:=by
 have h0:=hh { tmps:=args.toArray++Array.replicate (fn.ntmps-args.toArray.size) undef,defers:=[] } (Cx.sub (σ:=JY 0 args) ?_ hs);refine callsIn_wide.1 (callsIn_of_wp_marks (F:=Fence.wide) (n:=0) hf hb BN (wpIn_mono (F:=Fence.wide) h0 (fun e a w q=>?_)));rotate_left
 ·refine ⟨by simp [← hm],rfl,fun t c' v hl=>?_⟩
  obtain ⟨rfl,_,h3⟩:=PP args 0 t c' v hl;refine ⟨fun _=>?_,fun hn=>absurd BN hn⟩;rw [G0] at h3;have aa:t<args.length:=(Hf.1 h3).1;simp [HJ,aa,h3];simpa [aa] using h3
 cases e with
  | normal=>exact q
  | ret=>exact q
  | exit id=>exact q.elim
  | goto l=>exact q.elim
  | panic ch=>exact q
  | outgrown=>exact q.elim
theorem Va{P:BH}{f:FuncId}{fn:Func}{c:Code}{args:List Ak}{w:Ad}{G':Ak→Ad→Prop}{m:Nat}(hf:P.funcs[f]? = some fn)(hb:fn.body=some c)(hm:args.length+(fn.ntmps-args.length)=m)
  (σ0:List Ce) (hs:Hs σ0 (JY 0 args)) (hh:Gh P none m [] c (Kw P fn G' fun _ _=>False) [] (Kw P fn G' fun _ _=>False) (Mu P fn G' fun _ _=>False) σ0 w):Bx P f args.toArray w G' :=
 (Sb hf hb hm σ0 hs hh).ret fun _ _ h=>h
section
variable {P:BH} {n:Nat} {fn:Func} {G':Ak→Ad→Prop} {Rp:List Bd→Ad→Prop} {σ:List Ce} {w:Ad} {ds:List Deferred}
theorem L9(h:∀ a,Cx n σ a→bodyPost P fn (fun e w'=>∃ v,e = .returned v∧G' v w') .ret a w):∀ a,Cx n σ a→Kw P fn G' Rp [] a w:=fun a ha=>by
 have h1:=h a ha;unfold bodyPost at h1;obtain ⟨hd,v,hr,v',e,hv⟩:=h1;injection e with e;subst e;exact ⟨_,hr,.inl ⟨_,rfl,hv⟩⟩
theorem Z4(hr:fn.results = #[])(h:G' (.tuple #[]) w):∀ a,Cx n σ a→Kw P fn G' Rp [] a w:=fun a ha=>⟨_,results_none hr _ _ _,.inl ⟨_,rfl,h⟩⟩
theorem gJ{ch:List Bd}(h:Rp ch w):∀ a,Cx n σ a→Mu P fn G' Rp ch [] a w:=fun a ha=>.inr ⟨_,rfl,h⟩
@[reducible] def NB(db:Nat):Deferred:={ target:=.collected db,args:=#[] }
theorem zS{db:Nat}(hk:w.heap[db]? = some (.deferred (some [])))(h:∀ a,Cx n σ a→Kw P fn G' Rp ds a (w.putObj db (.deferred none))):∀ a,Cx n σ a→Kw P fn G' Rp (NB db::ds) a w:=fun a ha =>
 ⟨by simp,.inl ⟨_,_,rfl,run_takeDeferred hk,h a ha⟩⟩
def LV(P:BH)(f:FuncId)(args:Array Ak)(w:Ad)(G':Ak→Ad→Prop):Prop :=
 ∃ fn c,P.funcs[f]? = some fn∧fn.body=some c∧c.wp P (bodyPost P fn (fun e w'=>∃ v,e = .returned v∧G' v w')) { tmps:=args++Array.replicate (fn.ntmps-args.size) undef,defers:=[] } w
theorem LV.ret{P:BH}{f:FuncId}{args:Array Ak}{w:Ad}{G':Ak→Ad→Prop}(h:LV P f args w G'):Bx P f args w G':=by
 obtain ⟨fn,c,hf,hb,h⟩:=h;exact calls_of_wp hf hb h
theorem LV.mono{P:BH}{f:FuncId}{args:Array Ak}{w:Ad}{G' R':Ak→Ad→Prop}(h:LV P f args w G')(hr:∀ v w',G' v w'→R' v w'):LV P f args w R':=by
 obtain ⟨fn,c,hf,hb,h⟩:=h;refine ⟨fn,c,hf,hb,wp_mono h fun e a w q=>?_⟩;unfold bodyPost at q ⊢
 split at q <;> first
  | (obtain ⟨q0,v,q1,v',q3,q4⟩:=q;exact ⟨q0,v,q1,v',q3,hr _ _ q4⟩)
  | (obtain ⟨q1,v',q3,q4⟩:=q;exact ⟨q1,v',q3,hr _ _ q4⟩)
  | (obtain ⟨v',q3,q4⟩:=q;exact ⟨v',q3,hr _ _ q4⟩)
  | exact q.elim
theorem Zk{f:FuncId}{fn:Func}{c:Code}{args:List Ak}{G':Ak→Ad→Prop}{m:Nat}(hf:P.funcs[f]? = some fn)(hb:fn.body=some c)(hm:args.length+(fn.ntmps-args.length)=m)
 (σ0:List Ce) (hs:Hs σ0 (JY 0 args))
 (hh:St P m c (fun a w=>bodyPost P fn (fun e w'=>∃ v,e = .returned v∧G' v w') .normal a w) [] (fun a w=>bodyPost P fn (fun e w'=>∃ v,e = .returned v∧G' v w') .ret a w)
 σ0 w):LV P f args.toArray w G':=by
 refine ⟨fn,c,hf,hb,(Code.wp_mono (fun e a w q=>?_) (hh _ (Cx.sub (σ:=JY 0 args) ?_ hs)))⟩
 cases e with
 | normal=>exact q
 | ret=>exact q
 | panic ch=>exact q.2.elim
 | _=>exact q.elim
 refine ⟨by simp [← hm],rfl,fun t c' v hl=>?_⟩;obtain ⟨rfl,_,h3⟩:=PP args 0 t c' v hl;refine ⟨fun _=>?_,fun hn=>absurd BN hn⟩;rw [G0] at h3;have aa:t<args.length:=(Hf.1 h3).1;simp [HJ,aa,h3];simpa [aa] using h3
theorem W3{f:FuncId}{args:Array Ak}{u:FrameMode}{w:Ad}{G':Ak→Ad→Prop}(h:LV P f args w G'):CallsDIn Fence.wide (0-1) P f args u w fun e u' w'=>u'=u∧∃ v,e = .returned v∧G' v w':=by
 obtain ⟨fn,c,hf,hb,h⟩:=h;exact callsDIn_of_wp hf hb BN (wpIn_wide.2 h)
@[reducible] def Mz(f:Nat)(cs args:Array Ak):Deferred:={ target:=.fn (.func f) cs,args:=args }
theorem VD{f:Nat}{cs args:Array Ak}{R':Ak→Ad→Prop}(aa:Bt P f=true)(hC:LV P f (args++cs) w R')(h:∀ v w',R' v w'→∀ a,Cx n σ a→Kw P fn G' Rp ds a w'):∀ a,Cx n σ a→Kw P fn G' Rp (Mz f cs args::ds) a w:=fun a ha=>by
 refine ⟨by simp,.inr ⟨(fun h=>by cases h),.func f,cs,f,args++cs,rfl,Qj aa _ _,fun _ _=>BN,?_⟩⟩;have h1:=W3 (u:=.returning) hC;refine ⟨h1.1,fun c ab hu hr=>?_⟩;obtain ⟨e,u',w',fr,⟨rfl,v,rfl,hv⟩,h2⟩:=h1.2 c ab hu hr;refine ⟨.returned v,_,w',fr,?_,h2⟩;show LeavesInM _ _ _ _ _ _ _ (settle .returning) _;exact h v w' hv a ha
theorem uR{f:Nat}{cs args:Array Ak}{ch:List Bd}{R':Ak→Ad→Prop}(aa:Bt P f=true)(hs:settle (.panicking ch) = .panicking ch)(hC:LV P f (args++cs) w R')(h:∀ v w',R' v w'→∀ a,Cx n σ a→Mu P fn G' Rp ch ds a w'):∀ a,Cx n σ a→Mu P fn G' Rp ch (Mz f cs args::ds) a w:=fun a ha=>by
 refine ⟨by simp,.inr ⟨(fun h=>by cases h),.func f,cs,f,args++cs,rfl,Qj aa _ _,fun _ _=>BN,?_⟩⟩;have h1:=W3 (u:=.panicking ch) hC;refine ⟨h1.1,fun c ab hu hr=>?_⟩;obtain ⟨e,u',w',fr,⟨rfl,v,rfl,hv⟩,h2⟩:=h1.2 c ab hu hr;refine ⟨.returned v,_,w',fr,?_,h2⟩;show LeavesInM _ _ _ _ _ _ _ (settle (.panicking ch)) _;rw [hs];exact h v w' hv a ha
end
theorem F7.mono{P:BH}{Z:List Bd→Act→Ad→Prop}{ops:Array Oper}{cl:Nat→Nat}{lv:Nat→Bool}{W0:Ad}{H' K':Act→Ad→Prop}(hK:∀ a w,H' a w→K' a w):∀ (L:List Nat) (a:Act) (w:Ad),F7 P Z ops cl lv W0 H' L a w→F7 P Z ops cl lv W0 K' L a w
 | [],a,w,h=>hK _ _ h
 | i::rest,a,w,⟨o,ho,hb⟩=>by
  refine ⟨o,ho,?_⟩;by_cases hc:cl i=0∨cl i=3;rw [CP hc] at hb ⊢;obtain ⟨v,h1,h2,h3⟩:=hb;exact ⟨v,h1,h2,F7.mono hK rest _ _ h3⟩;rw [CJ hc] at hb ⊢;by_cases hw:Dt o (yielded ops a.tmps)=true;rw [CP hw] at hb ⊢;exact hb.turn rfl (fun _ _ h=>h) fun v w' _ hk=>F7.mono hK rest _ _ hk;rw [CJ hw] at hb ⊢;exact F7.mono hK rest _ _ hb
def ZZ(P:BH)(n:Nat)(σ:List Ce)(w:Ad)(op:Op)(ty:Aw)(d:Deferred):Prop :=
 ∀ (dst:Option Tmp) (pos:String) (after:Array Edge) (g:Option (Nat×Bool)) (a:Act),Cx n σ a→(execOp a.eval ⟨dst,op,ty,pos,after,g⟩).run P w = .ok (.defer d) w
theorem Wj{P:BH}{n:Nat}{σ:List Ce}{w:Ad}{x:A7}{f:Nat}{cs:Array Ak}{xs:List A7}{vs:List Ak}{aa:Array Aw}{ty:Aw}(h:Bz n σ True x (.func (.func f) #[] cs))(hx:Kj n σ True xs vs) :
 ZZ P n σ w (.defer { callee:=.value x,args:=xs.toArray,argTypes:=aa }) ty (Mz f cs vs.toArray):=fun ab pos after g a hk=>by
 have h2:xs.toArray.map a.eval=vs.toArray:=by rw [List.map_toArray,hx a hk BN]
 simp [execOp,resolve,h a hk BN,h2,Deferred.ofValue,Mz]
def T5(P:BH)(o:Oper)(N:ET)(ds:List Deferred)(a:Act)(w:Ad):Prop:=∃ d,(execOp a.eval o).run P w = .ok (.defer d) w∧N (d::ds) (a.put o.dst undef) w
theorem Uj{P:BH}{n:Nat}{σ:List Ce}{w:Ad}{op:Op}{ty:Aw}{pos:String}{after:Array Edge}{d:Deferred}{N:ET}{ds:List Deferred}(hr:ZZ P n σ w op ty d)(h:∀ a,Cx n σ a→N (d::ds) a w):∀ a,Cx n σ a→T5 P ⟨none,op,ty,pos,after,none⟩ N ds a w:=fun a ha =>
 ⟨d,hr _ _ _ _ a ha,h a ha⟩
theorem Oa{P:BH}{F:Fence}{n:Nat}{ops:Array Oper}{Q:Exit→Act→Ad→Prop}{L2:List Nat}:∀ (L1:List Nat) (a:Act) (w:Ad),wpOpsIn F n P ops (Exit.then (fun a w=>wpOpsIn F n P ops Q L2 a w) Q) L1 a w→wpOpsIn F n P ops Q (L1++L2) a w
 | [],a,w,h=>h
 | i::L1,a,w,h=>by
  have e:=wpOpsIn_cons (F:=F) (n:=n) (P:=P) (ops:=ops) (Q:=Q) i (L1++L2) a w;rw [List.cons_append,e];have e1:=wpOpsIn_cons (F:=F) (n:=n) (P:=P) (ops:=ops) (Q:=Exit.then (fun a w=>wpOpsIn F n P ops Q L2 a w) Q) i L1 a w;rw [e1] at h;unfold wpOpIn at h ⊢
  cases ho:ops[i]? with
  | none=>simp only [ho] at h ⊢;exact Oa L1 _ _ h
  | some o =>
   simp only [ho] at h ⊢;by_cases hw:Dt o (yielded ops a.tmps)=true;rw [CP hw] at h ⊢;refine ⟨h.1,?_⟩;have h2:=h.2;generalize (o.semAt F.round a.eval).run P w=r at *
   cases r with
   | ok x w' =>
    cases x <;> simp only [Oper.uponIn,LetsOut] at h2 ⊢ <;>
     first
      | exact Oa L1 _ _ h2
      | exact ⟨h2.1,CallsIn.mono h2.2 (fun e aa he=>by cases e <;> first|exact Oa L1 _ _ he|exact he)⟩
      | exact ⟨h2.1,RowsIn.mono h2.2 (fun _ _ he=>Oa L1 _ _ he)⟩
      | exact ⟨h2.1,RoundIn.mono h2.2 (fun e aa he=>by cases e <;> first|exact Oa L1 _ _ he|exact he)⟩
      | exact h2
   | halt x w'=>cases x <;> simp only [Oper.uponIn] at h2 ⊢ <;> exact h2
   rw [CJ hw] at h ⊢;exact ⟨h.1,Oa L1 _ _ h.2⟩
section
variable {P:BH} {n:Nat} {ds:List Deferred} {N T:ET} {X:List (Nat×ET)} {Z:List Bd→ET} {σ:List Ce} {w:Ad}
theorem VV{id k:Nat}{l:List Oper}{o:Oper}(cl:List Nat)(hk:Ap l.length (k+1)=true)(ho:l[k]? = some o)(hg:o.guard=none)
 (h:Bv P (fun ch a w=>Z ch ds a w) l cl [] w n (T5 P o N ds) 0 (l.take k) σ w):Gh P none n ds (.region id l.toArray false) N X T Z σ w:=fun a ha=>by
 have hk:=FP hk
 have h1:=h (fun j o' aa=>by
  rw [HA] at aa;split at aa;simpa using aa;cases aa) a ha
 have e:Ji []=fun _=>true:=by funext i;simp [Ji]
 rw [e] at h1;have h2:=F7.wd (Z:=Z) (N:=fun ds a w=>T5 P o N ds a w) ds _ a w ha.2.1 h1;refine wpIn_region ?_
 have hL:FS l.toArray.size=List.range' 0 (l.take k).length++[k]:=by
  rw [E1,Nat.min_eq_left O,List.size_toArray,hk,List.range_succ,List.range_eq_range']
 rw [hL];refine Oa _ _ _ (O2 (ρ:=none) (cl:=Bw cl) (W0:=w) (Z:=fun ch=>II (Z ch)) (fun ch a w h=>h) _ _ _ ?_);refine F7.mono (fun a' w' hq=>?_) _ _ _ h2;obtain ⟨d,hr,hn⟩:=hq;have hw:Dt o (yielded l.toArray a'.tmps)=true:=by unfold Dt;rw [hg]
 show wpOpsIn (Kb none) 0 P l.toArray (OE N X T Z) [k] a' w';unfold wpOpsIn;simp only [HN,ho];rw [CP hw];refine ⟨fun _ _=>BN,?_⟩;have hr:(execOp a'.eval o).run P w' = .ok (.defer d) w':=hr;rw [show Oper.semAt (Kb none).round a'.eval o=execOp a'.eval o from rfl,hr];have e1:(({ a' with defers:=d::a'.defers }:Act).put o.dst undef).defers=d::a'.defers:=MN _ _ _
 have e2:wd [] (({ a' with defers:=d::a'.defers }:Act).put o.dst undef)=(wd [] a').put o.dst undef:=by
  cases o.dst <;> rfl
 show N (({ a' with defers:=d::a'.defers }:Act).put o.dst undef).defers (wd [] (({ a' with defers:=d::a'.defers }:Act).put o.dst undef)) w';rw [e1,e2];exact hn
end
section
variable {P:BH} {B:List Bd→Ad→Prop} {ops:List Oper} {cl:List Nat} {lv:List Bool} {W0:Ad} {n:Nat} {H':Act→Ad→Prop} {k:Nat} {rest:List Oper} {σ:List Ce} {w:Ad} {d:Nat} {op:Op} {ty:Aw} {pos:String} {after:Array Edge} {v:Ak}
theorem PI{f:FuncId}{args:Array Ak}{G':Ak→Ad→Prop}{Rp:List Bd→Ad→Prop}(hb:(!Ap (Bw cl k) 0 && !Ap (Bw cl k) 3&&CQ d n)=true)(hr:Ol P n σ True w op ty f args)(hC:Gj P f args w G' Rp)
  (hz:∀ ch w',Rp ch w'→B ch w') (h:∀ v w',G' v w'→(Bw cl k=1→G w w')∧Bv P (Ll B) ops cl lv W0 n H' (k+1) rest ((d,True,v) :: σ) w') :
  Bv P (Ll B) ops cl lv W0 n H' k (⟨some d,op,ty,pos,after,none⟩::rest) σ w:=Mo hb hr hC (fun ch w' hp a ha=>⟨ha.2.1,hz ch w' hp⟩) h
end
theorem JD{P:BH}{f:FuncId}{fn:Func}{c:Code}{args:List Ak}{w:Ad}{G':Ak→Ad→Prop}{B:List Bd→Ad→Prop}{m:Nat}(hf:P.funcs[f]? = some fn)(hb:fn.body=some c)(hm:args.length+(fn.ntmps-args.length)=m)
 (σ0:List Ce) (hs:Hs σ0 (JY 0 args))
 (hh:EW P B m c (fun a w=>bodyPost P fn (fun e w'=>∃ v,e = .returned v∧G' v w') .normal a w) [] (fun a w=>bodyPost P fn (fun e w'=>∃ v,e = .returned v∧G' v w') .ret a w) σ0 w):Gj P f args.toArray w G' B:=by
 refine calls_of_wp hf hb (Code.wp_mono (fun e a w q=>?_) (hh.h _ (Cx.sub (σ:=JY 0 args) ?_ hs)))
 cases e with
 | normal=>obtain ⟨h1,v,h2,h3⟩:=q;exact ⟨h1,v,h2,.inl h3⟩
 | ret=>obtain ⟨h1,v,h2,h3⟩:=q;exact ⟨h1,v,h2,.inl h3⟩
 | panic ch=>exact ⟨q.1,.inr ⟨ch,rfl,q.2⟩⟩
 | _=>exact q.elim
 refine ⟨by simp [← hm],rfl,fun t c' v hl=>?_⟩;obtain ⟨rfl,_,h3⟩:=PP args 0 t c' v hl;refine ⟨fun _=>?_,fun hn=>absurd BN hn⟩;rw [G0] at h3;have aa:t<args.length:=(Hf.1 h3).1;simp [HJ,aa,h3];simpa [aa] using h3
def WW(P:BH)(B:List Bd→Ad→Prop)(o:Oper)(a:Act)(w:Ad):Prop:=∃ v,(execOp a.eval o).run P w = .halt (.panic v) w∧a.defers=[]∧B [⟨v,false,false⟩] w
theorem uJ{P:BH}{B:List Bd→Ad→Prop}{n:Nat}{N T:Act→Ad→Prop}{X:List (Nat×(Act→Ad→Prop))}{σ:List Ce}{w:Ad}{id k:Nat}{l:List Oper}{o:Oper}(cl:List Nat)(hk:Ap l.length (k+1)=true)(ho:l[k]? = some o)(hg:o.guard=none)
 (h:Bv P (Ll B) l cl [] w n (WW P B o) 0 (l.take k) σ w):EW P B n (.region id l.toArray false) N X T σ w:=.mk fun a ha=>by
 have hk:=FP hk
 have h1:=h (fun j o' aa=>by
  rw [HA] at aa;split at aa;simpa using aa;cases aa) a ha
 have e:Ji []=fun _=>true:=by funext i;simp [Ji]
 rw [e] at h1;refine (wpIn_wide (P:=P)).1 (wpIn_region (F:=Fence.wide) (n:=0) ?_)
 have hL:FS l.toArray.size=List.range' 0 (l.take k).length++[k]:=by
  rw [E1,Nat.min_eq_left O,List.size_toArray,hk,List.range_succ,List.range_eq_range']
 rw [hL];refine Oa _ _ _ (O2 (ρ:=none) (cl:=Bw cl) (W0:=w) (Z:=Ll B) (fun ch a w h=>h) _ _ _ ?_);refine F7.mono (fun a' w' hq=>?_) _ _ _ h1;obtain ⟨v,hr,hd,hb⟩:=hq;have hw:Dt o (yielded l.toArray a'.tmps)=true:=by unfold Dt;rw [hg]
 show wpOpsIn Fence.wide 0 P l.toArray (Ls N X T B) [k] a' w';unfold wpOpsIn;simp only [HN,ho];rw [CP hw];refine ⟨fun _ _=>BN,?_⟩;rw [show Oper.semAt Fence.wide.round a'.eval o=execOp a'.eval o from rfl,hr];exact ⟨hd,hb⟩
theorem Aab{P:BH}{B:List Bd→Ad→Prop}{n:Nat}{σ:List Ce}{w:Ad}{x:A7}{t:Aw}{u:Ak}{ty:Aw}{pos:String}{after:Array Edge}(hx:Bz n σ True x (.iface t u))(hB:B [⟨.iface t u,false,false⟩] w) :
  ∀ a,Cx n σ a→WW P B ⟨none,.panic x,ty,pos,after,none⟩ a w:=fun a ha=>by
  refine ⟨.iface t u,?_,ha.2.1,hB⟩;simp [execOp,hx a ha BN,Instr.panic,goPanic]
 class Em (s j:Nat) (o:outParam Nat):Prop where h:EB Aj s j=some o
 class Fu (t:Nat):Prop where h:G4 Aj t=true
 class JT (t:Nat) (z:outParam Nat):Prop where h:KW Aj t=some z
 class Da (t:Nat) (z:outParam Nat):Prop where h:Ir Aj t=some z
 class D1 (t:Nat) (z:outParam Ak):Prop where h:Gc Aj t=some z
 class RC (t:Nat):Prop where h:Ni Aj t=true
 class U0 (t:Nat) (z:outParam (List Nat)):Prop where h:Qt Aj t=some z
 class bW (t:Nat):Prop where h:Aj.underlying t=some .bool
 class Lo (t:Nat) (z:outParam (List (Nat×Nat))):Prop where h:Lj Aj t=some z
 class Jg (t:Nat) (e z b:outParam Nat):Prop where h:FQ Aj t=some (e,z,b)
instance:Em 24 0 0:=⟨TN⟩
instance:Em 24 1 1:=⟨Ui⟩
instance:Em 26 0 0:=⟨FK⟩
instance:Em 26 1 1:=⟨E6⟩
instance:Em 26 2 2:=⟨Lf⟩
instance:Em 26 3 3:=⟨HY⟩
instance:Em 26 4 4:=⟨AW⟩
instance:Em 26 5 5:=⟨Fl⟩
instance:Em 26 6 7:=⟨O7⟩
instance:Em 26 7 8:=⟨Vf⟩
instance:Em 46 0 0:=⟨Ou⟩
instance:Em 46 1 9:=⟨LA⟩
instance:Em 46 2 10:=⟨Vm⟩
instance:Em 46 3 11:=⟨RP⟩
instance:Em 46 4 12:=⟨P9⟩
instance:Em 46 5 13:=⟨fB⟩
instance:Em 46 6 15:=⟨SV⟩
instance:Em 46 7 16:=⟨Rb⟩
instance:Em 62 0 0:=⟨Yk⟩
instance:Em 62 1 1:=⟨ZW⟩
instance:Em 72 0 0:=⟨aB⟩
instance:Em 72 1 9:=⟨SI⟩
instance:Em 72 2 10:=⟨UK⟩
instance:Em 72 3 11:=⟨YE⟩
instance:Em 72 4 12:=⟨RW⟩
instance:Em 72 5 13:=⟨Ju⟩
instance:Em 72 6 14:=⟨ST⟩
instance:Em 72 7 15:=⟨OT⟩
instance:Em 74 0 0:=⟨XO⟩
instance:Em 74 1 1:=⟨TP⟩
instance:Em 74 2 2:=⟨TT⟩
instance:Em 83 0 0:=⟨Yo⟩
instance:Em 83 1 1:=⟨dU⟩
instance:Em 83 2 3:=⟨bH⟩
instance:Em 83 3 4:=⟨aU⟩
instance:Em 83 4 5:=⟨VJ⟩
instance:Em 88 0 0:=⟨XA⟩
instance:Em 88 1 1:=⟨WN⟩
instance:Em 88 2 3:=⟨bV⟩
instance:Em 88 3 4:=⟨aO⟩
instance:Em 109 0 0:=⟨V1⟩
instance:Em 109 1 1:=⟨UA⟩
instance:Em 115 0 0:=⟨Ai⟩
instance:Em 115 1 1:=⟨Ai⟩
instance:Em 115 2 2:=⟨Ai⟩
instance:Em 125 0 0:=⟨MX⟩
instance:Em 125 1 1:=⟨H6⟩
instance:Em 125 2 2:=⟨PS⟩
instance:Em 125 3 3:=⟨Uz⟩
instance:Em 152 0 0:=⟨Ai⟩
instance:Em 152 1 1:=⟨Ai⟩
instance:Em 152 2 2:=⟨Ai⟩
instance:Fu 1:=⟨Ai⟩
instance:Fu 2:=⟨Ai⟩
instance:Fu 3:=⟨Cd⟩
instance:Fu 4:=⟨Ai⟩
instance:Fu 5:=⟨Ai⟩
instance:Fu 9:=⟨DU⟩
instance:Fu 20:=⟨Ai⟩
instance:Fu 22:=⟨Bj⟩
instance:Fu 28:=⟨YO⟩
instance:Fu 34:=⟨Nu⟩
instance:Fu 39:=⟨Ai⟩
instance:Fu 40:=⟨Ai⟩
instance:Fu 42:=⟨Ai⟩
instance:Fu 43:=⟨Mi⟩
instance:Fu 44:=⟨Nn⟩
instance:Fu 51:=⟨Ai⟩
instance:Fu 52:=⟨Ai⟩
instance:Fu 64:=⟨Ai⟩
instance:Fu 65:=⟨R6⟩
instance:Fu 66:=⟨U6⟩
instance:Fu 67:=⟨XK⟩
instance:Fu 68:=⟨R0⟩
instance:Fu 69:=⟨J4⟩
instance:Fu 70:=⟨M8⟩
instance:Fu 77:=⟨VG⟩
instance:Fu 84:=⟨Ai⟩
instance:Fu 86:=⟨Pd⟩
instance:Fu 90:=⟨Ai⟩
instance:Fu 95:=⟨Sa⟩
instance:Fu 101:=⟨Ai⟩
instance:Fu 105:=⟨Ai⟩
instance:Fu 111:=⟨O1⟩
instance:Fu 116:=⟨Ai⟩
instance:Fu 121:=⟨Ai⟩
instance:Fu 134:=⟨Ai⟩
instance:Fu 140:=⟨Ai⟩
instance:Fu 145:=⟨Ai⟩
instance:Fu 149:=⟨Ai⟩
instance:Fu 155:=⟨Ai⟩
instance:JT 24 2:=⟨Ci⟩
instance:JT 26 9:=⟨A3⟩
instance:JT 46 17:=⟨Yx⟩
instance:JT 62 2:=⟨Ai⟩
instance:JT 72 16:=⟨Ai⟩
instance:JT 74 4:=⟨Ai⟩
instance:JT 83 6:=⟨dO⟩
instance:JT 88 5:=⟨eK⟩
instance:JT 100 13:=⟨dV⟩
instance:JT 109 3:=⟨Ai⟩
instance:JT 115 3:=⟨Zs⟩
instance:JT 125 4:=⟨Ai⟩
instance:JT 137 27:=⟨Yr⟩
instance:JT 152 3:=⟨Ai⟩
instance:Da 1 1:=⟨Ai⟩
instance:Da 2 1:=⟨Ai⟩
instance:Da 3 1:=⟨IU⟩
instance:Da 4 1:=⟨Ai⟩
instance:Da 5 1:=⟨Ai⟩
instance:Da 9 1:=⟨Ai⟩
instance:Da 20 1:=⟨Ai⟩
instance:Da 22 1:=⟨Mm⟩
instance:Da 24 2:=⟨E0⟩
instance:Da 26 9:=⟨FH⟩
instance:Da 28 1:=⟨Ai⟩
instance:Da 34 1:=⟨Ro⟩
instance:Da 39 1:=⟨Ai⟩
instance:Da 40 1:=⟨Ai⟩
instance:Da 42 1:=⟨Ai⟩
instance:Da 43 1:=⟨QW⟩
instance:Da 44 1:=⟨O5⟩
instance:Da 46 17:=⟨aV⟩
instance:Da 51 1:=⟨Ai⟩
instance:Da 52 1:=⟨Ai⟩
instance:Da 62 2:=⟨Ai⟩
instance:Da 64 1:=⟨Ai⟩
instance:Da 65 1:=⟨Ai⟩
instance:Da 66 1:=⟨Ai⟩
instance:Da 67 1:=⟨Ai⟩
instance:Da 68 1:=⟨Ai⟩
instance:Da 69 1:=⟨Qv⟩
instance:Da 70 1:=⟨NZ⟩
instance:Da 72 16:=⟨Ai⟩
instance:Da 74 4:=⟨SN⟩
instance:Da 77 1:=⟨Ai⟩
instance:Da 83 6:=⟨Ai⟩
instance:Da 84 1:=⟨Ai⟩
instance:Da 86 1:=⟨eF⟩
instance:Da 88 5:=⟨Ai⟩
instance:Da 90 1:=⟨Ai⟩
instance:Da 95 1:=⟨Ai⟩
instance:Da 100 13:=⟨Ai⟩
instance:Da 101 1:=⟨Ai⟩
instance:Da 105 1:=⟨Ai⟩
instance:Da 109 3:=⟨Ai⟩
instance:Da 111 1:=⟨Tr⟩
instance:Da 115 3:=⟨Ai⟩
instance:Da 116 1:=⟨Ai⟩
instance:Da 121 1:=⟨Ai⟩
instance:Da 125 4:=⟨Ai⟩
instance:Da 134 1:=⟨Ai⟩
instance:Da 137 27:=⟨Ai⟩
instance:Da 140 1:=⟨Ai⟩
instance:Da 145 1:=⟨Ai⟩
instance:Da 149 1:=⟨Ai⟩
instance:Da 152 3:=⟨Ai⟩
instance:Da 155 1:=⟨Ai⟩
instance:D1 1 (.nilFunc):=⟨Ai⟩
instance:D1 2 (.int .i64 0):=⟨Ai⟩
instance:D1 3 (.int .i64 0):=⟨Lp⟩
instance:D1 4 (.bool false):=⟨Wed⟩
instance:D1 5 (.int .u8 0):=⟨Ai⟩
instance:D1 9 (.string ⟨#[]⟩):=⟨Ai⟩
instance:D1 20 (.nilIface):=⟨Ai⟩
instance:D1 22 (.slice none 0 0):=⟨dJ⟩
instance:D1 24 (.agg #[.int .i64 0,.string ⟨#[]⟩]):=⟨Fw⟩
instance:D1 26 (.agg #[.int .i64 0,.string ⟨#[]⟩,.int .i64 0,.int .i64 0,.slice none 0 0,.int .i64 0,.string ⟨#[]⟩,.int .i64 0,.int .i64 0]):=⟨Ck⟩
instance:D1 28 (.nilFunc):=⟨Ai⟩
instance:D1 34 (.int .i64 0):=⟨YB⟩
instance:D1 39 (.nilFunc):=⟨Ai⟩
instance:D1 40 (.nilFunc):=⟨Ai⟩
instance:D1 42 (.pointer none):=⟨Ai⟩
instance:D1 43 (.slice none 0 0):=⟨Ai⟩
instance:D1 44 (.slice none 0 0):=⟨Ai⟩
instance:D1 46 (.agg #[.int .i64 0,.string ⟨#[]⟩,.int .i64 0,.int .i64 0,.slice none 0 0,.int .i64 0,.string ⟨#[]⟩,.int .i64 0,.int .i64 0,.slice none 0 0,.int .i64 0,.int .i64 0,.slice none 0 0,.int .i64 0,.string ⟨#[]⟩,.int .i64 0,.int .i64 0]):=⟨Z2⟩
instance:D1 51 (.nilFunc):=⟨Ai⟩
instance:D1 52 (.nilFunc):=⟨Ai⟩
instance:D1 62 (.agg #[.int .i64 0,.int .i64 0]):=⟨ZK⟩
instance:D1 64 (.pointer none):=⟨Ai⟩
instance:D1 65 (.map none):=⟨Ai⟩
instance:D1 66 (.map none):=⟨Ai⟩
instance:D1 67 (.map none):=⟨Ai⟩
instance:D1 68 (.map none):=⟨Ai⟩
instance:D1 69 (.slice none 0 0):=⟨Ai⟩
instance:D1 70 (.slice none 0 0):=⟨Ai⟩
instance:D1 72 (.agg #[.int .i64 0,.string ⟨#[]⟩,.int .i64 0,.int .i64 0,.slice none 0 0,.int .i64 0,.string ⟨#[]⟩,.int .i64 0,.int .i64 0,.map none,.map none,.map none,.map none,.slice none 0 0,.slice none 0 0,.slice none 0 0]):=⟨bZ⟩
instance:D1 74 (.agg #[.int .i64 0,.slice none 0 0,.int .i64 0,.string ⟨#[]⟩]):=⟨O9⟩
instance:D1 77 (.nilFunc):=⟨Ai⟩
instance:D1 83 (.agg #[.string ⟨#[]⟩,.int .i64 0,.string ⟨#[]⟩,.int .i64 0,.int .i64 0,.int .i64 0]):=⟨Ta⟩
instance:D1 84 (.nilFunc):=⟨Ai⟩
instance:D1 86 (.slice none 0 0):=⟨Ud⟩
instance:D1 88 (.agg #[.string ⟨#[]⟩,.int .i64 0,.string ⟨#[]⟩,.int .i64 0,.int .i64 0]):=⟨TR⟩
instance:D1 90 (.nilFunc):=⟨Ai⟩
instance:D1 95 (.nilFunc):=⟨XL⟩
instance:D1 100 (.agg #[.string ⟨#[]⟩,.string ⟨#[]⟩,.string ⟨#[]⟩,.string ⟨#[]⟩,.string ⟨#[]⟩,.string ⟨#[]⟩,.string ⟨#[]⟩,.string ⟨#[]⟩,.string ⟨#[]⟩,.string ⟨#[]⟩,.string ⟨#[]⟩,.string ⟨#[]⟩,.string ⟨#[]⟩]):=⟨Ai⟩
instance:D1 101 (.nilFunc):=⟨Ai⟩
instance:D1 105 (.slice none 0 0):=⟨Ai⟩
instance:D1 109 (.agg #[.string ⟨#[]⟩,.int .i64 0,.string ⟨#[]⟩]):=⟨Py⟩
instance:D1 111 (.slice none 0 0):=⟨Ai⟩
instance:D1 115 (.agg #[.int .i64 0,.string ⟨#[]⟩,.int .i64 0]):=⟨Od⟩
instance:D1 116 (.slice none 0 0):=⟨Ai⟩
instance:D1 121 (.pointer none):=⟨Ai⟩
instance:D1 125 (.agg #[.string ⟨#[]⟩,.int .i64 0,.slice none 0 0,.slice none 0 0]):=⟨Ai⟩
instance:D1 134 (.nilIface):=⟨Ai⟩
instance:D1 137 (.agg #[.string ⟨#[]⟩,.string ⟨#[]⟩,.string ⟨#[]⟩,.string ⟨#[]⟩,.string ⟨#[]⟩,.string ⟨#[]⟩,.string ⟨#[]⟩,.string ⟨#[]⟩,.string ⟨#[]⟩,.string ⟨#[]⟩,.string ⟨#[]⟩,.string ⟨#[]⟩,.string ⟨#[]⟩,.string ⟨#[]⟩,.string ⟨#[]⟩,.string ⟨#[]⟩,.string ⟨#[]⟩,.string ⟨#[]⟩,.string ⟨#[]⟩,.string ⟨#[]⟩,.string ⟨#[]⟩,.string ⟨#[]⟩,.string ⟨#[]⟩,.string ⟨#[]⟩,.string ⟨#[]⟩,.string ⟨#[]⟩,.string ⟨#[]⟩]):=⟨Ai⟩
instance:D1 140 (.int .i64 0):=⟨Ai⟩
instance:D1 145 (.pointer none):=⟨Ai⟩
instance:D1 149 (.slice none 0 0):=⟨Ai⟩
instance:D1 152 (.agg #[.string ⟨#[]⟩,.string ⟨#[]⟩,.nilIface]):=⟨Ai⟩
instance:D1 155 (.pointer none):=⟨Ai⟩
instance:Jg 22 26 9 104:=⟨AB⟩
instance:Jg 43 83 6 64:=⟨Lq⟩
instance:Jg 44 3 1 8:=⟨GR⟩
instance:Jg 69 86 1 24:=⟨J0⟩
instance:Jg 70 24 2 24:=⟨IR⟩
instance:Jg 86 88 5 56:=⟨NS⟩
instance:Jg 105 109 3 40:=⟨Ps⟩
instance:Jg 111 115 3 32:=⟨Mg⟩
instance:Jg 116 95 1 8:=⟨Ts⟩
instance:Jg 149 5 1 1:=⟨Ai⟩
instance:RC 9:=⟨JR⟩
instance:U0 24 [0,1]:=⟨Ie⟩
instance:bW 4:=⟨cY⟩
instance:Lo 24 [(0,1),(1,1)]:=⟨HW⟩
instance:Lo 26 [(0,1),(1,1),(2,1),(3,1),(4,1),(5,2),(7,1),(8,1)]:=⟨Js⟩
instance:Lo 46 [(0,9),(9,1),(10,1),(11,1),(12,1),(13,2),(15,1),(16,1)]:=⟨Ai⟩
instance:Lo 62 [(0,1),(1,1)]:=⟨Xh⟩
instance:Lo 72 [(0,9),(9,1),(10,1),(11,1),(12,1),(13,1),(14,1),(15,1)]:=⟨YV⟩
instance:Lo 74 [(0,1),(1,1),(2,2)]:=⟨UO⟩
instance:Lo 83 [(0,1),(1,2),(3,1),(4,1),(5,1)]:=⟨dA⟩
instance:Lo 88 [(0,1),(1,2),(3,1),(4,1)]:=⟨bB⟩
instance:Lo 109 [(0,1),(1,2)]:=⟨VY⟩
instance:Lo 115 [(0,1),(1,1),(2,1)]:=⟨Sf⟩
instance:Lo 125 [(0,1),(1,1),(2,1),(3,1)]:=⟨Ai⟩
instance:Lo 152 [(0,1),(1,1),(2,1)]:=⟨Ai⟩
theorem AK{Z:List Bd→Act→Ad→Prop}{ops:List Oper}{cl:List Nat}{lv:List Bool}{W0:Ad}{n:Nat}{H':Act→Ad→Prop}{k:Nat}{rest:List Oper}{σ:List Ce}{w:Ad}{d:Nat}{ty:Aw}{pos:String}{after:Array Edge}{f:FuncId}{xs:List A7}{vs:List Ak}{aa:Array Aw}{G':Ak→Ad→Prop}(hC:Bx Aj f vs.toArray w G')
  (h:∀ v w',G' v w'→(Bw cl k=1→G w w')∧Bv Aj Z ops cl lv W0 n H' (k+1) rest ((d,True,v) :: σ) w') (hx:Kj n σ True xs vs:=by repeat first|exact CT|refine CF rfl ?_)
  (hb:(!Ap (Bw cl k) 0 && !Ap (Bw cl k) 3&&CQ d n)=true:=by exact rfl) (hf:Bt Aj f=true:=by kernel_rfl) :
  Bv Aj Z ops cl lv W0 n H' k (⟨some d,.call { callee:=.value (.func f),args:=xs.toArray,argTypes:=aa },ty,pos,after,none⟩::rest) σ w:=Fg hb (BK hf Cf hx BI) hC h
theorem AY{p A B q:Prop}(h:A→B→q)(k:(A→B→q)→p:=by exact fun h=>⟨(by first|exact E3|exact fun _=>ga),(by first|exact h (g.trans ga) (E.gt ga rfl)|exact h (Cc g ga) (E.a ga)|exact h (g.trans ga) (E.a ga))⟩):p:=k h
theorem Ev{p:Prop}(h:p:=by first
  | exact H rfl
  | exact Bl
  | exact Am rfl id
  | exact Am rfl (fun h=>h.1)
  | exact IE
  | exact Cf
  | exact Am rfl (fun h=>h.1.1)):p:=h
theorem Uq{p:Prop}(h:p:=by first
  | exact E.E.j rfl
  | exact E.Q.j rfl
  | exact E.g2.j rfl
  | exact E.g3.j rfl
  | exact E.g4.j rfl
  | exact E.g5.j rfl
  | exact E.g6.j rfl
  | exact E.g7.j rfl
  | exact E.g8.j rfl
  | exact E.g9.j rfl
  | exact E.a7.j rfl
  | exact E.a5.j rfl
  | exact E.a8.j rfl
  | exact h.B.j rfl
  | exact hB.j rfl
  | exact (hs.a g).B.j rfl
  | exact hcell.one (i:=0) rfl
  | exact hcell.one (i:=1) rfl
  | exact hcell.one (i:=2) rfl
  | exact hcell.one (i:=3) rfl
  | exact hcell.one (i:=4) rfl
  | exact hcell.one (i:=5) rfl
  | exact hcell.one (i:=6) rfl
  | exact hcell.one (i:=7) rfl
  | exact hcell.one (i:=8) rfl
  | exact by assumption):p:=h
theorem U8{p:Prop}(h:p:=by first
  | exact E.E.row
  | exact E.Q.row
  | exact E.g2.row
  | exact E.g3.row
  | exact E.g4.row
  | exact E.g5.row
  | exact E.g6.row
  | exact E.g7.row
  | exact E.g8.row
  | exact E.g9.row
  | exact E.a7.row
  | exact E.a5.row
  | exact E.a8.row
  | exact hcell
  | exact hcell.a g
  | exact by assumption
  | exact h.B.row.part 13 2
  | exact hcell.part 5 2
  | exact E.E.row.part 5 2
  | exact E.Q.row.part 5 2
  | exact E.g2.row.part 5 2
  | exact E.g3.row.part 5 2
  | exact E.g4.row.part 5 2
  | exact E.g5.row.part 5 2
  | exact E.g6.row.part 5 2
  | exact E.g7.row.part 5 2
  | exact E.g8.row.part 5 2
  | exact E.g9.row.part 5 2
  | exact E.a7.row.part 5 2
  | exact E.a5.row.part 5 2
  | exact E.a8.row.part 5 2):p:=h
theorem UN{p:Prop}(h:p:=by first
  | (apply A9;exact Ev)
  | (apply AE;exact Em.h;exact Ev)
  | (apply Eu;exact Ev)
  | (apply GA;exact Ev;exact Ev)
  | (apply ES;exact Ev;exact Ev)
  | (apply Gv;exact Ev;exact Ev)
  | (apply KP;exact Ev;exact Ev)
  | (apply Nl;exact Ev)
  | (apply F8;exact Ev)
  | (apply LP;exact Jg.h;exact Ev)
  | (apply QC;exact Ev;exact Ev)
  | (apply SL;exact RC.h;exact Ev)
  | (apply FW;exact Ev;exact rfl)
  | (apply Yj;exact Ev;exact Ev)
  | (apply Pn;exact Ev;exact Ev)
  | (apply QJ;exact Ev;exact Ev)
  | (apply P4;exact Ev;exact Ev)
  | (apply CS;exact Jg.h;exact Ev;exact Ev;exact (fun _=>O);exact fun _=>hpe)
  | (apply TL;exact Ev;exact Ev;exact (fun _=>O))
  | (apply JE;exact Ev;exact Ev;exact (fun _=>O))
  | (apply I1;exact U0.h;exact Ev;exact Ev;exact rfl)
  | (apply Sz;exact Ev;exact Ev)
  | (apply gX;exact bW.h;exact Ev;exact Ev)
  | (apply OB;exact RC.h;exact Ev;exact Ev;exact (fun _=>O))
  | (apply WH;exact U0.h;exact Ev;exact Ev;exact rfl)
  | (apply QT;exact RC.h;exact Ev;exact Ev;exact Ev;exact (fun _=>O))
  | (apply Xm;exact RC.h;exact Ev;exact Ev;exact (fun _=>O))
  | (apply JH;exact Jg.h;exact Ev;exact Ev;exact (fun _=>O))):p:=h
theorem zH{p:Prop}(h:p:=by first
  | (apply AU;exact Fu.h;exact Ev;exact fun _=>Uq)
  | (apply A2;exact JT.h;exact Ev;rotate_left;exact fun _=>U8;exact rfl)):p:=h
def Nx(σ:List Ce):List Nat→Option (List Ce)
 | []=>some []
 | k::ks=>match Ey σ k with
  | none=>none
  | some (c,v)=>match Nx σ ks with
   | none=>none
   | some τ=>some ((k,c,v) :: τ)
theorem Pk{σ:List Ce}:∀ {ks:List Nat} {τ:List Ce},Nx σ ks=some τ→Hs τ σ
 | [],τ,h=>by injection h with h;subst h;exact Bm _
 | k::ks,τ,h=>by
  unfold Nx at h;split at h;cases h;rename_i c v hl;split at h;cases h;rename_i τ' hk;injection h with h;subst h;exact K hl (Pk hk)
section
variable {P:BH} {Z:List Bd→Act→Ad→Prop} {ops:List Oper} {cl:List Nat} {lv:List Bool} {W0:Ad} {n:Nat} {H':Act→Ad→Prop} {k:Nat} {rest:List Oper} {σ τ:List Ce} {w:Ad} {d:Nat} {op:Op} {ty:Aw} {pos:String} {after:Array Edge} {v:Ak} {N T:Act→Ad→Prop} {X:List (Nat×(Act→Ad→Prop))}
theorem BL(ks:List Nat)(h:Bv P Z ops cl lv W0 n H' k rest τ w)(hk:Nx σ ks=some τ:=by exact rfl):Bv P Z ops cl lv W0 n H' k rest σ w:=FD τ (Pk hk) h
theorem GI{B:List Bd→Ad→Prop}{f:FuncId}{x1 x2:A7}{v1 v2:Ak}{aa:Array Aw}{G':Ak→Ad→Prop}{Rp:List Bd→Ad→Prop}(hb:(!Ap (Bw cl k) 0 && !Ap (Bw cl k) 3&&CQ d n)=true)(hf:Bt P f=true)(h1:FG σ x1=some (True,v1))(h2:FG σ x2=some (True,v2))(hC:Gj P f #[v1,v2] w G' Rp)(hz:∀ ch w',Rp ch w'→B ch w')
  (h:∀ v w',G' v w'→(Bw cl k=1→G w w')∧Bv P (Ll B) ops cl lv W0 n H' (k+1) rest ((d,True,v) :: σ) w'):Bv P (Ll B) ops cl lv W0 n H' k (⟨some d,.call { callee:=.value (.func f),args:=#[x1,x2],argTypes:=aa },ty,pos,after,none⟩::rest) σ w:=PI hb (BK hf Cf (CF h1 (CF h2 CT)) rfl) hC hz h
theorem EO{B:List Bd→Ad→Prop}{f:FuncId}{x1 x2 x3:A7}{v1 v2 v3:Ak}{aa:Array Aw}{G':Ak→Ad→Prop}{Rp:List Bd→Ad→Prop}(hb:(!Ap (Bw cl k) 0 && !Ap (Bw cl k) 3&&CQ d n)=true)(hf:Bt P f=true)(h1:FG σ x1=some (True,v1))(h2:FG σ x2=some (True,v2))(h3:FG σ x3=some (True,v3))(hC:Gj P f #[v1,v2,v3] w G' Rp)(hz:∀ ch w',Rp ch w'→B ch w')
  (h:∀ v w',G' v w'→(Bw cl k=1→G w w')∧Bv P (Ll B) ops cl lv W0 n H' (k+1) rest ((d,True,v) :: σ) w'):Bv P (Ll B) ops cl lv W0 n H' k (⟨some d,.call { callee:=.value (.func f),args:=#[x1,x2,x3],argTypes:=aa },ty,pos,after,none⟩::rest) σ w:=PI hb (BK hf Cf (CF h1 (CF h2 (CF h3 CT))) rfl) hC hz h
theorem On{ρ:Option Nat}{ds:List Deferred}{N T:ET}{X:List (Nat×ET)}{Z:List Bd→ET}{c:Code}(ks:List Nat)(h:Gh P ρ n ds c N X T Z τ w)(hk:Nx σ ks=some τ:=by exact rfl):Gh P ρ n ds c N X T Z σ w:=NH τ (Pk hk) h
theorem CL{w w':Ad}{b j:Nat}{e:Aw}{l:List Ak}(h:Av w b e l)(hg:w.grownBy w' (some j))(k:b≠j:=by first|assumption|exact fun e=>(by assumption:j≠b) e.symm|omega):Av w' b e l:=h.A hg fun q=>k (by injection q)
theorem VW{B0:List Bd→Ad→Prop}{c:Code}(ks:List Nat)(h:EW P B0 n c N X T τ w)(hk:Nx σ ks=some τ:=by exact rfl):EW P B0 n c N X T σ w:=Wg τ (Pk hk) h
theorem AZ{B0:List Bd→Ad→Prop}{t:Nat}{g:Bool}{y:Code}{b0:Bool}(ks:List Nat)(hy:g=false→EW P B0 n y (fun a w'=>Cx n ((t,True,.bool b0) :: τ) a∧w'=w) X T σ w)(hN:∀ a,Cx n ((t,True,.bool (g || b0)) :: τ) a→N a w)(hk:Nx σ (t::ks)=some ((t,True,.bool g) :: τ):=by exact rfl)(hx:Ey σ t=some (True,.bool g):=by exact rfl) :
  EW P B0 n (.cond (.tmp t) .skip y) N X T σ w:=Rr τ (Pk hk) hx hy hN
theorem Dp{cl ms:List Nat}{row:H0}{m:Nat}{L:List Nat}(ks:List Nat)(h:G9 P Z ops cl ms row n H' m L τ w)(hk:Nx σ ks=some τ:=by exact rfl):G9 P Z ops cl ms row n H' m L σ w:=Kf τ (Pk hk) h
theorem Cj{f:FuncId}{fn:Func}{c:Code}{args:List Ak}{G':Ak→Ad→Prop}(m:Nat)(ks:List Nat)(hf:P.funcs[f]? = some fn)(h:St P m c (fun a w=>bodyPost P fn (fun e w'=>∃ v,e = .returned v∧G' v w') .normal a w) [] (fun a w=>bodyPost P fn (fun e w'=>∃ v,e = .returned v∧G' v w') .ret a w) τ w)
  (hb:fn.body=some c:=by exact rfl) (hm:args.length+(fn.ntmps-args.length)=m:=by exact rfl) (hk:Nx (JY 0 args) ks=some τ:=by exact rfl):Bx P f args.toArray w G':=JW hf hb hm τ (Pk hk) h
theorem DA{f:FuncId}{xs:List A7}{vs:List Ak}{aa:Array Aw}(hC:Bx P f vs.toArray w fun u w'=>u=v∧G w w')(h:∀ w',G w w'→Bv P Z ops cl lv W0 n H' (k+1) rest ((d,True,v) :: σ) w')(hx:Kj n σ True xs vs:=by repeat first|exact CT|refine CF rfl ?_)
  (hb:(!Ap (Bw cl k) 0 && !Ap (Bw cl k) 3&&CQ d n)=true:=by exact rfl) (hf:Bt P f=true:=by kernel_rfl):Bv P Z ops cl lv W0 n H' k (⟨some d,.call { callee:=.value (.func f),args:=xs.toArray,argTypes:=aa },ty,pos,after,none⟩::rest) σ w:=F1 hb (BK hf Cf hx BI) hC h
theorem F4{f:FuncId}{xs:List A7}{vs:List Ak}{aa:Array Aw}{g t:Nat}{want b:Bool}{c0:Prop}(hC:c0∧b=want→Bx P f vs.toArray w fun u w'=>u=v∧G w w')(h:∀ w',G w w'→Bv P Z ops cl lv W0 n H' (k+1) rest ((d,c0∧b=want,v) :: σ) w')(hgd:((ops.toArray[g]?).bind (·.dst))=some t:=by exact rfl)(hlk:Ey σ t=some (c0,.bool b):=by exact rfl)
  (hx:Kj n σ (c0∧b=want) xs vs:=by repeat first|exact CY|refine Cu Ev ?_)
  (hb:(!Ap (Bw cl k) 0 && !Ap (Bw cl k) 3&&CQ d n)=true:=by exact rfl) (hf:Bt P f=true:=by kernel_rfl):Bv P Z ops cl lv W0 n H' k (⟨some d,.call { callee:=.value (.func f),args:=xs.toArray,argTypes:=aa },ty,pos,after,some (g,want)⟩::rest) σ w:=E9 hb hgd hlk (fun _=>BK hf Cf hx BI) hC h
end
section
variable {P:BH} {Z:List Bd→Act→Ad→Prop} {ops:List Oper} {cl:List Nat} {lv:List Bool} {W0:Ad} {n:Nat} {H':Act→Ad→Prop} {k:Nat} {rest:List Oper} {σ τ:List Ce} {w:Ad} {d:Nat} {op:Op} {ty:Aw} {pos:String} {after:Array Edge} {v:Ak} {N T:Act→Ad→Prop} {X:List (Nat×(Act→Ad→Prop))} {x y:A7} {t u:Aw}
theorem oD{c:Code}{B:List Bd→Ad→Prop}(h:EW P B n c N X T σ w):EW P B n c N X T σ w:=h
theorem jQ{l:List Oper}(h:Bv P Z ops cl lv W0 n H' k l σ w):Bv P Z ops cl lv W0 n H' k l σ w:=h
theorem nD(h:Bv P Z ops cl lv W0 n H' k (⟨some d,.load t x,ty,pos,after,none⟩::rest) σ w):Bv P Z ops cl lv W0 n H' k (⟨some d,.load t x,ty,pos,after,none⟩::rest) σ w:=h
theorem uD{g:Nat×Bool}(h:Bv P Z ops cl lv W0 n H' k (⟨some d,op,ty,pos,after,some g⟩::rest) σ w):Bv P Z ops cl lv W0 n H' k (⟨some d,op,ty,pos,after,some g⟩::rest) σ w:=h
theorem vG{b:BinOp}(h:Bv P Z ops cl lv W0 n H' k (⟨some d,.binOp b t x y u,ty,pos,after,none⟩::rest) σ w):Bv P Z ops cl lv W0 n H' k (⟨some d,.binOp b t x y u,ty,pos,after,none⟩::rest) σ w:=h
theorem xN(hb:Ap (Bw cl k) 3=true)(h:Bv P Z ops cl lv W0 n H' k (⟨some d,op,ty,pos,after,none⟩::rest) σ w):Bv P Z ops cl lv W0 n H' k (⟨some d,op,ty,pos,after,none⟩::rest) σ w:=h
end
structure Sv (q:Prop):Prop where h:q
theorem R{p q:Prop}(h:q)(k:Sv q→p:=by
 intro h0
 repeat first
  | (refine oD ?_;first|(refine Ao ?_;try refine Ay ?_)|refine Ay ?_|refine CU (kq ?_)|refine DY ?_|refine OD rfl (kq ?_))
  | (refine jQ ?_;first|(refine Al ?_;refine kq ?_)|(refine nD ?_;first|refine CH JT.h rfl rfl U8 ?_|refine AL Fu.h rfl Uq ?_)|(refine uD ?_;first|(refine' AD rfl rfl rfl ?_ ?_;rotate_left;exact fun _=>UN)|(refine' BU rfl rfl rfl ?_ ?_;rotate_left;exact zH))|(refine vG ?_;first|refine Mb rfl rfl ?_|refine FM rfl rfl ?_|refine IB rfl rfl O ?_|refine MU rfl rfl ?_|refine G2 rfl rfl ?_|refine RJ rfl rfl ?_|refine NE rfl rfl ?_|(refine' AG rfl ?_ ?_;rotate_left;exact fun _=>UN))|(refine xN rfl ?_;first|refine As rfl ?_|refine BO rfl ?_|refine AF Em.h rfl ?_|refine Dd rfl ?_|refine TV rfl ?_|refine ED Jg.h rfl ?_|refine Dn Jg.h rfl rfl O (by first|exact hpe|assumption) ?_|refine Li rfl rfl ?_|(refine' AG rfl ?_ ?_;rotate_left;exact fun _=>UN)|refine Gi D1.h Lo.h (by first|exact Cz|exact A5 rfl Cz|repeat first|exact Cz|refine A5 rfl ?_) rfl rfl ?_))
  | (refine FF ?_;refine kq ?_)
 exact h0.h):p:=k ⟨h⟩
theorem Az{p A B C D:Prop}(hT:A→B)(hF:C→D)(k:(A→B)→(C→D)→p:=by intro hT hF;refine R ?_;exact CB rfl hT hF):p:=k hT hF
theorem fE{p:Prop}(h:p:=by repeat first|exact HP|(apply J7;exact rfl)|(apply HQ;exact rfl;exact JT.h;rotate_left;exact U8;rotate_right;exact rfl)|(apply OC;exact rfl;exact Fu.h;exact Uq)):p:=h
theorem AC{p q:Prop}(h:q)(k:Sv q→p:=by intro h;refine R ?_;refine DZ ?_;first|exact FJ rfl rfl h.h|exact Mf rfl fE h.h|exact KV rfl rfl fE rfl h.h|exact RF rfl h.h):p:=k ⟨h⟩
theorem H8{p A:Prop}(h:A)(k:Sv A→p:=by intro z;refine AS fun _ _ _ g E=>?_;refine AC ?_;exact ⟨z.h,g⟩):p:=k ⟨h⟩
theorem Cy{p B:Prop}{G' A L C' q:Go.World→Prop}(h:∀ w,G' w→B→A w→L w→C' w→q w)(k:(∀ w,G' w→B→A w→L w→C' w→q w)→p:=by intro z;refine AS fun w ga Ca g E=>?_;exact z w ga Ca g E (h.A ga Ca O Gn)):p:=k h
theorem Cw{p A:Prop}(h:A)(k:Sv A→p:=by intro z;refine AC ?_;exact ⟨Ib z.h,g⟩):p:=k ⟨h⟩
theorem A1{p:Prop}{G' A L q:Nat→Ad→Prop}{B:Nat→Prop}(h:∀ b w,G' b w→B b→A b w→L b w→q b w)(k:(∀ b w,G' b w→B b→A b w→L b w→q b w)→p:=by
 intro h;refine R ?_
 first
  | refine EI rfl D1.h rfl (fun b w N=>h b w N (Du N g.size) (Cc g N.g) (E.new N))
  | refine EI rfl D1.h rfl (fun b w N=>h b w N (N.ge g) (g.trans N.g) (E.new N))):p:=k h
theorem Nh{p:Prop}{G' A L q:Nat→Ad→Prop}{B:Nat→Prop}(h:∀ b w,G' b w→B b→A b w→L b w→q b w)(k:(∀ b w,G' b w→B b→A b w→L b w→q b w)→p:=by
 intro h;refine R ?_
 first
  | refine EI rfl D1.h rfl (fun b w N=>h b w N (Du N g.size) (Cc g N.g) ((JN _).new N))
  | refine EI rfl D1.h rfl (fun b w N=>h b w N (N.ge g) (g.trans N.g) ((JN _).new N))):p:=k h
theorem LU{p:Prop}{G' A L q:Nat→Ad→Prop}{B:Nat→Prop}(h:∀ b w,G' b w→B b→A b w→L b w→q b w)(k:(∀ b w,G' b w→B b→A b w→L b w→q b w)→p:=by
 intro h;refine R ?_
 first
  | refine Ja rfl (FT rfl) rfl (fun b w N=>h b w N (Du N g.size) (Cc g N.g) (E.new N))
  | refine Ja rfl (FT rfl) rfl (fun b w N=>h b w N (N.ge g) (g.trans N.g) (E.new N))):p:=k h
theorem CN{p:Prop}{G' A L q:Nat→Ad→Prop}{B:Nat→Prop}(h:∀ b w,G' b w→B b→A b w→L b w→q b w)(k:(∀ b w,G' b w→B b→A b w→L b w→q b w)→p:=by
 intro h;refine R ?_
 first
  | refine Ja rfl (FT rfl) rfl (fun b w N=>h b w N (Du N g.size) (Cc g N.g) ((JN _).new N))
  | refine Ja rfl (FT rfl) rfl (fun b w N=>h b w N (N.ge g) (g.trans N.g) ((JN _).new N))):p:=k h
theorem Ch{p:Prop}{G' A L q:Nat→Ad→Prop}{B:Nat→Prop}(h:∀ b w,G' b w→B b→A b w→L b w→q b w)(k:(∀ b w,G' b w→B b→A b w→L b w→q b w)→p:=by
 intro h;refine R ?_
 first
  | refine Fo _ rfl Jg.h D1.h (by first|exact A5 rfl Cz|exact A5 rfl (A5 rfl Cz)|exact A5 rfl (A5 rfl (A5 rfl Cz))|exact A5 rfl (A5 rfl (A5 rfl (A5 rfl Cz)))|exact A5 rfl (A5 rfl (A5 rfl (A5 rfl (A5 rfl Cz))))|exact A5 rfl (A5 rfl (A5 rfl (A5 rfl (A5 rfl (A5 rfl Cz)))))) rfl rfl (fun b w N=>h b w N (Du N g.size) (Cc g N.g) (E.new N))
  | refine Fo _ rfl Jg.h D1.h (by first|exact A5 rfl Cz|exact A5 rfl (A5 rfl Cz)|exact A5 rfl (A5 rfl (A5 rfl Cz))|exact A5 rfl (A5 rfl (A5 rfl (A5 rfl Cz)))|exact A5 rfl (A5 rfl (A5 rfl (A5 rfl (A5 rfl Cz))))|exact A5 rfl (A5 rfl (A5 rfl (A5 rfl (A5 rfl (A5 rfl Cz)))))) rfl rfl (fun b w N=>h b w N (N.ge g) (g.trans N.g) (E.new N))):p:=k h
theorem TJ{p:Prop}{G' A L q:Nat→Ad→Prop}{B:Nat→Prop}(h:∀ b w,G' b w→B b→A b w→L b w→q b w)(k:(∀ b w,G' b w→B b→A b w→L b w→q b w)→p:=by
 intro h;refine R ?_
 first
  | refine Fo _ rfl Jg.h D1.h (by first|exact A5 rfl Cz|exact A5 rfl (A5 rfl Cz)|exact A5 rfl (A5 rfl (A5 rfl Cz))|exact A5 rfl (A5 rfl (A5 rfl (A5 rfl Cz)))|exact A5 rfl (A5 rfl (A5 rfl (A5 rfl (A5 rfl Cz))))|exact A5 rfl (A5 rfl (A5 rfl (A5 rfl (A5 rfl (A5 rfl Cz)))))) rfl rfl (fun b w N=>h b w N (Du N g.size) (Cc g N.g) ((JN _).new N))
  | refine Fo _ rfl Jg.h D1.h (by first|exact A5 rfl Cz|exact A5 rfl (A5 rfl Cz)|exact A5 rfl (A5 rfl (A5 rfl Cz))|exact A5 rfl (A5 rfl (A5 rfl (A5 rfl Cz)))|exact A5 rfl (A5 rfl (A5 rfl (A5 rfl (A5 rfl Cz))))|exact A5 rfl (A5 rfl (A5 rfl (A5 rfl (A5 rfl (A5 rfl Cz)))))) rfl rfl (fun b w N=>h b w N (N.ge g) (g.trans N.g) ((JN _).new N))):p:=k h
theorem AS{p B:Prop}{G' A L q:Ad→Prop}(h:∀ w,G' w→B→A w→L w→q w)(k:(∀ w,G' w→B→A w→L w→q w)→p:=by
 intro h;refine R ?_
 first
  | refine GW Da.h rfl rfl rfl E.E (fun w r _ B=>h w r E.E (by first|exact CC g r (by first|assumption|omega)|exact CO g r (by first|assumption|omega)) (E.s0 r B))
  | refine JK Da.h rfl rfl rfl E.E (fun w r _ B=>h w r E.E (by first|exact CC g r (by first|assumption|omega)|exact CO g r (by first|assumption|omega)) (E.s0 r B))
  | refine GW Da.h rfl rfl rfl E.Q (fun w r _ B=>h w r E.Q (by first|exact CC g r (by first|assumption|omega)|exact CO g r (by first|assumption|omega)) (E.s1 r B))
  | refine JK Da.h rfl rfl rfl E.Q (fun w r _ B=>h w r E.Q (by first|exact CC g r (by first|assumption|omega)|exact CO g r (by first|assumption|omega)) (E.s1 r B))
  | refine GW Da.h rfl rfl rfl E.g2 (fun w r _ B=>h w r E.g2 (by first|exact CC g r (by first|assumption|omega)|exact CO g r (by first|assumption|omega)) (E.s2 r B))
  | refine JK Da.h rfl rfl rfl E.g2 (fun w r _ B=>h w r E.g2 (by first|exact CC g r (by first|assumption|omega)|exact CO g r (by first|assumption|omega)) (E.s2 r B))
  | refine GW Da.h rfl rfl rfl E.g3 (fun w r _ B=>h w r E.g3 (by first|exact CC g r (by first|assumption|omega)|exact CO g r (by first|assumption|omega)) (E.s3 r B))
  | refine JK Da.h rfl rfl rfl E.g3 (fun w r _ B=>h w r E.g3 (by first|exact CC g r (by first|assumption|omega)|exact CO g r (by first|assumption|omega)) (E.s3 r B))
  | refine GW Da.h rfl rfl rfl E.g4 (fun w r _ B=>h w r E.g4 (by first|exact CC g r (by first|assumption|omega)|exact CO g r (by first|assumption|omega)) (E.s4 r B))
  | refine JK Da.h rfl rfl rfl E.g4 (fun w r _ B=>h w r E.g4 (by first|exact CC g r (by first|assumption|omega)|exact CO g r (by first|assumption|omega)) (E.s4 r B))
  | refine GW Da.h rfl rfl rfl E.g5 (fun w r _ B=>h w r E.g5 (by first|exact CC g r (by first|assumption|omega)|exact CO g r (by first|assumption|omega)) (E.s5 r B))
  | refine JK Da.h rfl rfl rfl E.g5 (fun w r _ B=>h w r E.g5 (by first|exact CC g r (by first|assumption|omega)|exact CO g r (by first|assumption|omega)) (E.s5 r B))
  | refine GW Da.h rfl rfl rfl E.g6 (fun w r _ B=>h w r E.g6 (by first|exact CC g r (by first|assumption|omega)|exact CO g r (by first|assumption|omega)) (E.s6 r B))
  | refine JK Da.h rfl rfl rfl E.g6 (fun w r _ B=>h w r E.g6 (by first|exact CC g r (by first|assumption|omega)|exact CO g r (by first|assumption|omega)) (E.s6 r B))
  | refine GW Da.h rfl rfl rfl E.g7 (fun w r _ B=>h w r E.g7 (by first|exact CC g r (by first|assumption|omega)|exact CO g r (by first|assumption|omega)) (E.s7 r B))
  | refine JK Da.h rfl rfl rfl E.g7 (fun w r _ B=>h w r E.g7 (by first|exact CC g r (by first|assumption|omega)|exact CO g r (by first|assumption|omega)) (E.s7 r B))
  | refine GW Da.h rfl rfl rfl E.g8 (fun w r _ B=>h w r E.g8 (by first|exact CC g r (by first|assumption|omega)|exact CO g r (by first|assumption|omega)) (E.s8 r B))
  | refine JK Da.h rfl rfl rfl E.g8 (fun w r _ B=>h w r E.g8 (by first|exact CC g r (by first|assumption|omega)|exact CO g r (by first|assumption|omega)) (E.s8 r B))
  | refine GW Da.h rfl rfl rfl E.g9 (fun w r _ B=>h w r E.g9 (by first|exact CC g r (by first|assumption|omega)|exact CO g r (by first|assumption|omega)) (E.s9 r B))
  | refine JK Da.h rfl rfl rfl E.g9 (fun w r _ B=>h w r E.g9 (by first|exact CC g r (by first|assumption|omega)|exact CO g r (by first|assumption|omega)) (E.s9 r B))
  | refine GW Da.h rfl rfl rfl E.a7 (fun w r _ B=>h w r E.a7 (by first|exact CC g r (by first|assumption|omega)|exact CO g r (by first|assumption|omega)) (E.bo r B))
  | refine JK Da.h rfl rfl rfl E.a7 (fun w r _ B=>h w r E.a7 (by first|exact CC g r (by first|assumption|omega)|exact CO g r (by first|assumption|omega)) (E.bo r B))
  | refine GW Da.h rfl rfl rfl E.a5 (fun w r _ B=>h w r E.a5 (by first|exact CC g r (by first|assumption|omega)|exact CO g r (by first|assumption|omega)) (E.bu r B))
  | refine JK Da.h rfl rfl rfl E.a5 (fun w r _ B=>h w r E.a5 (by first|exact CC g r (by first|assumption|omega)|exact CO g r (by first|assumption|omega)) (E.bu r B))
  | refine GW Da.h rfl rfl rfl E.a8 (fun w r _ B=>h w r E.a8 (by first|exact CC g r (by first|assumption|omega)|exact CO g r (by first|assumption|omega)) (E.b0 r B))
  | refine JK Da.h rfl rfl rfl E.a8 (fun w r _ B=>h w r E.a8 (by first|exact CC g r (by first|assumption|omega)|exact CO g r (by first|assumption|omega)) (E.b0 r B))):p:=k h
theorem AM{p q:Prop}(h:p)(k:p→q:=by exact fun h=>h.A ga BI):q:=k h
theorem Hk{p q:Prop}(h:p)(k:p→q:=by exact fun h=>h.A ga Ca rfl O):q:=k h
theorem AR{p B:Prop}{G' A L C' q:Go.World→Prop}(h:∀ w,G' w→B→A w→L w→C' w→q w)(k:(∀ w,G' w→B→A w→L w→C' w→q w)→p:=by intro z;refine AS fun w ga Ca g E=>?_;exact z w ga Ca g E (Hk h)):p:=k h
theorem Cq{p q:Prop}(h:p)(k:p→q:=by exact fun h=>h.A ga Gp):q:=k h
theorem DO{p q:Prop}(h:p)(k:p→q:=by exact fun h=>by first|exact h.af ga Ca rfl|exact h.A ga BI):q:=k h
theorem IJ{p q:Prop}(h:p)(k:p→q:=by exact fun h=>by first|exact h.af ga Ca rfl|exact h.A ga (by first|exact .inl O|simp)):q:=k h
theorem Dc{p q:Prop}(h:p)(k:p→q:=by exact fun h=>L4 h ga O):q:=k h
theorem Ar{p q:Prop}(h:p)(k:p→q:=by exact fun h=>h.a ga.g):q:=k h
theorem Bp{p q:Prop}(h:p)(k:p→q:=by exact fun h=>h.new ga):q:=k h
theorem AO{p q:Prop}(h:p)(k:p→q:=by exact fun h=>h.a ga):q:=k h
theorem DP{p q:Prop}(h:p)(k:p→q:=by exact fun h=>h.gt ga):q:=k h
theorem F0{p q:Prop}(h:p)(k:p→q:=by exact fun h=>h.gt ga (fun k h=>h)):q:=k h
end Go.Rk
namespace Go.Rk
open Go.Proofs
open Go
theorem BJ:True:=BN
def I2(c:Int):Bool:=(Ae (97≤c)&&Ae (c≤122) || Ae (65≤c)&&Ae (c≤90)) || Ae (c=95)
def Fx(c:Int):Bool:=Ae (48≤c)&&Ae (c≤57)
theorem Wu(c:Int)(w:Ad):Bx Aj 157 #[.int .u8 c] w fun v w'=>v = .bool (I2 c)∧G w w':=by
 have g:=G.refl w;refine Cj 21 [0] Tryz.func157 ?_;refine AC ?_;exact ⟨rfl,g⟩
theorem VQ(c:Int)(w:Ad):Bx Aj 159 #[.int .u8 c] w fun v w'=>v = .bool (Fx c)∧G w w':=by
 have g:=G.refl w;refine Cj 9 [0] Tryz.func159 ?_;refine AC ?_;exact ⟨rfl,g⟩
theorem vX(c:Int)(w:Ad):Bx Aj 156 #[.int .u8 c] w fun v w'=>v = .bool (!Ae (c=10))∧G w w':=by
 have g:=G.refl w;refine Cj 5 [0] Tryz.func156 ?_;refine AC ?_;exact ⟨rfl,g⟩
theorem qN(c:Int)(w:Ad):Bx Aj 158 #[.int .u8 c] w fun v w'=>v = .bool (I2 c || Fx c)∧G w w':=by
 have g:=G.refl w;refine Cj 9 [0] Tryz.func158 ?_;refine R ?_;refine DA (Wu _ _) (fun w4 g4=>?_);have g:=g.trans g4;refine R ?_;refine F4 (fun hc=>VQ _ _) (fun w7 g7=>?_);have g:=g.trans g7;refine AC ?_;exact ⟨rfl,g⟩
def Kv:List (List UInt8):=[[116,121,112,101],[115,116,114,117,99,116],[118,97,114],[102,117,110,99],[105,102],[101,108,115,101],[102,111,114],[114,101,116,117,114,110],[103,111],[100,101,102,101,114],[115,101,108,101,99,116],[99,97,115,101],[100,101,102,97,117,108,116],[99,104,97,110],[110,101,119],[109,97,107,101],[108,101,110],[116,114,117,101],[102,97,108,115,101],[110,105,108],[112,114,105,110,116],[99,108,111,115,101],[105,110,116],[98,111,111,108],[109,117,116,101,120],[114,119,109,117,116,101,120],[103,114,111,117,112],[111,110,99,101],[97,116,111,109,105,99]]
def SY:List (List UInt8):=[[116,114,117,101],[102,97,108,115,101],[110,105,108],[114,101,116,117,114,110],[105,110,116],[98,111,111,108],[109,117,116,101,120],[114,119,109,117,116,101,120],[103,114,111,117,112],[111,110,99,101],[97,116,111,109,105,99],[41],[93],[125]]
def Jd(l:List (List UInt8))(s:List UInt8):Bool:=l.any fun k=>Ae (s=k)
theorem vC(s:List UInt8)(w:Ad):Bx Aj 160 #[Co s] w fun v w'=>v = .bool (Jd Kv s)∧G w w':=by
 have g:=G.refl w;refine Cj 34 [0] Tryz.func160 ?_;refine R ?_;refine' AZ [2] (fun a0=>?y1) (kq ?n1)
 case y1 =>
  refine R ?_;refine' AZ [2] (fun az=>?y2) AX
  case y2 =>
   refine R ?_;refine' AZ [2] (fun a4=>?y3) AX
   case y3 =>
    refine R ?_;refine' AZ [2] (fun ay=>?y4) AX
    case y4 =>
     refine R ?_;refine' AZ [2] (fun a2=>?y5) AX
     case y5 =>
      refine R ?_;refine' AZ [2] (fun a3=>?y6) AX
      case y6 =>
       refine R ?_;refine' AZ [2] (fun ax=>?y7) AX
       case y7 =>
        refine R ?_;refine' AZ [2] (fun aw=>?y8) AX
        case y8 =>
         refine R ?_;refine' AZ [2] (fun a1=>?y9) AX
         case y9 =>
          refine R ?_;refine' AZ [2] (fun ao=>?y10) AX
          case y10 =>
           refine R ?_;refine' AZ [2] (fun ar=>?y11) AX
           case y11 =>
            refine R ?_;refine' AZ [2] (fun av=>?y12) AX
            case y12 =>
             refine R ?_;refine' AZ [2] (fun ag=>?y13) AX
             case y13 =>
              refine R ?_;refine' AZ [2] (fun ai=>?y14) AX
              case y14 =>
               refine R ?_;refine' AZ [2] (fun ap=>?y15) AX
               case y15 =>
                refine R ?_;refine' AZ [2] (fun am=>?y16) AX
                case y16 =>
                 refine R ?_;refine' AZ [2] (fun ab=>?y17) AX
                 case y17 =>
                  refine R ?_;refine' AZ [2] (fun al=>?y18) AX
                  case y18 =>
                   refine R ?_;refine' AZ [2] (fun af=>?y19) AX
                   case y19 =>
                    refine R ?_;refine' AZ [2] (fun aq=>?y20) AX
                    case y20 =>
                     refine R ?_;refine' AZ [2] (fun ac=>?y21) AX
                     case y21 =>
                      refine R ?_;refine' AZ [2] (fun ah=>?y22) AX
                      case y22 =>
                       refine R ?_;refine' AZ [2] (fun au=>?y23) AX
                       case y23 =>
                        refine R ?_;refine' AZ [2] (fun ad=>?y24) AX
                        case y24 =>
                         refine R ?_;refine' AZ [2] (fun ak=>?y25) AX
                         case y25 =>
                          refine R ?_;refine' AZ [2] (fun an=>?y26) AX
                          case y26 =>
                           refine R ?_;refine' AZ [2] (fun aj=>?y27) AX
                           case y27 =>
                            refine R ?_;refine' AZ [2] (fun ae=>?y28) AX
                            case y28 =>
                             refine R ?_;refine BL [4,2] ?_;exact Al AX
 case n1 =>
  refine Az (fun aa=>?_) fun aa=>?_;(try simp only [BJ] at aa);refine AC ?_;refine ⟨?_,g⟩;simp only [Jd,Kv,Eb,Ei,Dg];rw [aa];refine AC ?_;refine ⟨?_,g⟩;simp only [Jd,Kv,Eb,Ei,Dg];rw [aa]
theorem nH(s:List UInt8)(w:Ad):Bx Aj 164 #[Co s] w fun v w'=>v = .bool (Jd SY s)∧G w w':=by
 have g:=G.refl w;refine Cj 19 [0] Tryz.func164 ?_;refine R ?_;refine' AZ [2] (fun an=>?y1) (kq ?n1)
 case y1 =>
  refine R ?_;refine' AZ [2] (fun am=>?y2) AX
  case y2 =>
   refine R ?_;refine' AZ [2] (fun ak=>?y3) AX
   case y3 =>
    refine R ?_;refine' AZ [2] (fun al=>?y4) AX
    case y4 =>
     refine R ?_;refine' AZ [2] (fun ai=>?y5) AX
     case y5 =>
      refine R ?_;refine' AZ [2] (fun aj=>?y6) AX
      case y6 =>
       refine R ?_;refine' AZ [2] (fun ag=>?y7) AX
       case y7 =>
        refine R ?_;refine' AZ [2] (fun af=>?y8) AX
        case y8 =>
         refine R ?_;refine' AZ [2] (fun ah=>?y9) AX
         case y9 =>
          refine R ?_;refine' AZ [2] (fun ab=>?y10) AX
          case y10 =>
           refine R ?_;refine' AZ [2] (fun ae=>?y11) AX
           case y11 =>
            refine R ?_;refine' AZ [2] (fun ad=>?y12) AX
            case y12 =>
             refine R ?_;refine' AZ [2] (fun ac=>?y13) AX
             case y13 =>
              refine R ?_;refine BL [4,2] ?_;exact Al AX
 case n1 =>
  refine Az (fun aa=>?_) fun aa=>?_;(try simp only [BJ] at aa);refine AC ?_;refine ⟨?_,g⟩;simp only [Jd,SY,Eb,Ei,Dg];rw [aa];refine AC ?_;refine ⟨?_,g⟩;simp only [Jd,SY,Eb,Ei,Dg];rw [aa]
theorem rL(s:List UInt8)(w:Ad):Bx Aj 76 #[Co s] w fun v w'=>v = .bool (Jd Kv s)∧G w w':=by
 have g:=G.refl w;refine Cj 34 [0] Tryz.func76 ?_;refine R ?_;refine' AZ [2] (fun a0=>?y1) (kq ?n1)
 case y1 =>
  refine R ?_;refine' AZ [2] (fun az=>?y2) AX
  case y2 =>
   refine R ?_;refine' AZ [2] (fun a4=>?y3) AX
   case y3 =>
    refine R ?_;refine' AZ [2] (fun ay=>?y4) AX
    case y4 =>
     refine R ?_;refine' AZ [2] (fun a2=>?y5) AX
     case y5 =>
      refine R ?_;refine' AZ [2] (fun a3=>?y6) AX
      case y6 =>
       refine R ?_;refine' AZ [2] (fun ax=>?y7) AX
       case y7 =>
        refine R ?_;refine' AZ [2] (fun aw=>?y8) AX
        case y8 =>
         refine R ?_;refine' AZ [2] (fun a1=>?y9) AX
         case y9 =>
          refine R ?_;refine' AZ [2] (fun ao=>?y10) AX
          case y10 =>
           refine R ?_;refine' AZ [2] (fun ar=>?y11) AX
           case y11 =>
            refine R ?_;refine' AZ [2] (fun av=>?y12) AX
            case y12 =>
             refine R ?_;refine' AZ [2] (fun ag=>?y13) AX
             case y13 =>
              refine R ?_;refine' AZ [2] (fun ai=>?y14) AX
              case y14 =>
               refine R ?_;refine' AZ [2] (fun ap=>?y15) AX
               case y15 =>
                refine R ?_;refine' AZ [2] (fun am=>?y16) AX
                case y16 =>
                 refine R ?_;refine' AZ [2] (fun ab=>?y17) AX
                 case y17 =>
                  refine R ?_;refine' AZ [2] (fun al=>?y18) AX
                  case y18 =>
                   refine R ?_;refine' AZ [2] (fun af=>?y19) AX
                   case y19 =>
                    refine R ?_;refine' AZ [2] (fun aq=>?y20) AX
                    case y20 =>
                     refine R ?_;refine' AZ [2] (fun ac=>?y21) AX
                     case y21 =>
                      refine R ?_;refine' AZ [2] (fun ah=>?y22) AX
                      case y22 =>
                       refine R ?_;refine' AZ [2] (fun au=>?y23) AX
                       case y23 =>
                        refine R ?_;refine' AZ [2] (fun ad=>?y24) AX
                        case y24 =>
                         refine R ?_;refine' AZ [2] (fun ak=>?y25) AX
                         case y25 =>
                          refine R ?_;refine' AZ [2] (fun an=>?y26) AX
                          case y26 =>
                           refine R ?_;refine' AZ [2] (fun aj=>?y27) AX
                           case y27 =>
                            refine R ?_;refine' AZ [2] (fun ae=>?y28) AX
                            case y28 =>
                             refine R ?_;refine BL [4,2] ?_;exact Al AX
 case n1 =>
  refine Az (fun aa=>?_) fun aa=>?_;(try simp only [BJ] at aa);refine AC ?_;refine ⟨?_,g⟩;simp only [Jd,Kv,Eb,Ei,Dg];rw [aa];refine AC ?_;refine ⟨?_,g⟩;simp only [Jd,Kv,Eb,Ei,Dg];rw [aa]
end Go.Rk
namespace Go.Rk
open Go.Proofs
open Go Go.RowKit
def IV(p s:List UInt8):Bool:=Ae (p.length≤s.length)&&Ae (s.take p.length=p)
theorem zW(s p:List UInt8)(w:Ad):Bx Aj 165 #[Co s,Co p] w fun v w'=>v = .bool (IV p s)∧G w w':=by
 have g:=G.refl w;refine Cj 18 [0,1] Tryz.func165 ?_;refine R ?_;refine AD U U U (fun _=>Xm JR (Am U id) (Am U id) (fun hc=>⟨O,by have:=AV hc.2;omega⟩)) ?_;refine AC ?_;refine ⟨?_,g⟩;unfold IV;simp
theorem XT(s p:List UInt8)(w:Ad):Bx Aj 154 #[Co s,Co p] w fun v w'=>v = .bool (IV p s)∧G w w':=by
 have g:=G.refl w;refine Cj 8 [0,1] Tryz.func154 ?_;refine R ?_;refine DA (zW _ _ _) (fun w7 g7=>?_);have g:=g.trans g7;refine AC ?_;exact ⟨rfl,g⟩
structure EA where
  c:Int
  i:List UInt8
  m:Int
def Nz(t:EA):List Ak:=[.int .i64 t.c,Co t.i,.int .i64 t.m]
def Kt(l:List EA):List Ak:=l.flatMap Nz
theorem YK(l:List EA):(Kt l).length=l.length*3:=by
 unfold Kt
 induction l with
 | nil=>rfl
 | cons t l ih=>rw [Fe,DF,ih];simp [Nz];omega
theorem TG(l:List EA)(t:EA):Kt (l++[t])=Kt l++Nz t:=by simp [Kt]
def KY(base b:Nat)(s:List UInt8)(p:Nat)(ts cs:List EA)(w:Ad):Prop :=
 ∃ ta tc ca cc,Av w b 125 [Co s,.int .i64 p,.slice ta ts.length tc,.slice ca cs.length cc]∧base≤b∧w.ownsRow base 115 3 (.slice ta ts.length tc) ts.length (Kt ts)∧
  w.ownsRow base 115 3 (.slice ca cs.length cc) cs.length (Kt cs)∧(Ez ta ts.length tc).ownBlock≠some b∧(Ez ca cs.length cc).ownBlock≠some b∧
  (∀ k,(Ez ta ts.length tc).ownBlock=some k→(Ez ca cs.length cc).ownBlock≠some k)∧ts.length≤p∧cs.length≤p∧p≤s.length∧s.length≤20000
theorem VU{w:Ad}{base:Nat}{e:Aw}{z:Nat}{tv aa cv:Ak}{m:Nat}{xs:List Ak}(hc:w.ownsRow base e z cv m xs)(n3:∀ k,tv.ownBlock=some k→cv.ownBlock≠some k)
 (ab:aa.ownBlock=tv.ownBlock∨aa.ownBlock=some w.heap.size):∀ k,aa.ownBlock=some k→cv.ownBlock≠some k:=by
 intro k hk;rcases ab with e|e;exact n3 k (e▸hk);rw [e] at hk;injection hk with hk;subst hk;exact lJ hc (BM _)
theorem Wc{w:Ad}{b:Nat}{tv aa:Ak}(hb:b<w.heap.size)(n1:tv.ownBlock≠some b)(ab:aa.ownBlock=tv.ownBlock∨aa.ownBlock=some w.heap.size):aa.ownBlock≠some b:=by
 rcases ab with e|e <;> rw [e]
 exact n1;intro h;injection h with h;omega
theorem Wv{w w':Ad}{base:Nat}{e:Aw}{z:Nat}{tv cv:Ak}{m:Nat}{xs:List Ak}(hc:w.ownsRow base e z cv m xs)(n3:∀ k,tv.ownBlock=some k→cv.ownBlock≠some k)(hg:w.grownBy w' tv.ownBlock):w'.ownsRow base e z cv m xs :=
 Df hc hg (by rcases hq:cv.ownBlock with _|k;exact .inl rfl;exact .inr (fun he=>n3 k he.symm hq))
theorem SB(base b:Nat)(s:List UInt8)(p:Nat)(ts cs:List EA)(kind:Int)(size:Nat)(w:Ad)(hs:KY base b s p ts cs w)(h1:1≤size)(h2:p+size≤s.length) :
 Bx Aj 161 #[.pointer (some ⟨b,0,none⟩),.int .i64 kind,.int .i64 size] w fun v w'=>v = .tuple #[]∧KY base b s (p+size) (ts++[⟨kind,(s.drop p).take size,p⟩]) cs w'∧Below base w w':=by
 obtain ⟨ta,tc,ca,cc,hB,ai,ht,hc,n1,n2,n3,k1,k2,k3,k4⟩:=hs;have hb:Below base w w:=Below.refl _ _;have af:=hB.lt;refine JW (m:=44) Tryz.func161 U U [(0,True,_),(1,True,_),(2,True,_)] (K U (K U (K U (Bm _)))) ?_;refine Ao (C9 [3,3,3,3,0,3,3,3,3,0,3,3,3,0,3,3,3,0,3,3,3,3,3,3,0,3,1,2,3,3,2] ?_);have hb:=hb.drew;have hB:Av w.drew _ _ _:=hB;have ht:=X5 ht;have hc:=X5 hc;refine As U (As U (Dd U (AF PS U (AL O1 U (hB.j U) (As U (As U (Dd U (AF MX U (AL DU U (hB.j U) (As U (Dd U (AF H6 U (AL Cd U (hB.j U) (As U (Dd U (?_))))))))))))))));refine AF H6 U (AL Cd U (hB.j U) (As U (IB U U O (AG U (fun _=>QT JR (H U) (H U) (H U) (fun _=>O)) (As U (Dd U (AF H6 U (AL Cd U (hB.j U) (Gi Od Sf (A5 U (A5 U (A5 U Cz))) U U (Fo _ U Mg Od (A5 U Cz) U U ?_))))))))));intro an ao ab;have hb:=hb.trans (Lt ab.g (by show base≤w.heap.size;omega));have hB:=hB.a ab.g;have ht:=D7 ht ab.g;have hc:=D7 hc ab.g;have af:=hB.lt;have E:=(JN _).new ab;refine ID U Mg Od U Cb (H U) ht (H U) U ab.p.row U (by simp only [maxLen];omega) O O ?_;intro ah aj ap aa hg ae
 have hb:=MZ hb hg O (fun k hk=>(ht.lt k hk).1);have hB:=hB.A hg (Ne.symm n1);have ag:=VU hc n3 ae;have hc:=Wv hc n3 hg;have n3:=ag;have n1:=Wc af n1 ae;refine R ?_;refine CZ U Tr (H U) (H U) U U hB U U ?_;intro am ad al hB;have hb:=MZ hb ad (by have:=hb.size;omega) (fun k hk=>by injection hk with hk;omega);have aa:=Df aa ad (.inr n1);have hc:=Df hc ad (.inr n2);refine R ?_;refine CZ U IU (H U) (H U) U U hB U U ?_;intro aq ac ak hB;have hb:=MZ hb ac (by have:=hb.size;omega) (fun k hk=>by injection hk with hk;omega);have aa:=Df aa ac (.inr n1);have hc:=Df hc ac (.inr n2);refine Al (Hl U ?_);have e:((p:Int)+size).toNat-(p:Int).toNat=size:=by omega
 rw [e] at aa;have hl:(ts++[(⟨kind,(s.drop p).take size,p⟩:EA)]).length=ts.length+1:=by simp
 refine ⟨rfl,⟨ah,aj,ca,cc,?_,ai,?_,hc,?_,n2,?_,?_,O,h2,k4⟩,hb⟩ <;> rw [hl]
 exact hB;rw [TG];exact aa;exact n1;exact n3;omega
structure Jn (base b:Nat) (s:List UInt8) (p:Nat) (ts cs:List EA) (ta:Option Addr) (tc:Nat) (ca:Option Addr) (cc:Nat) (w:Ad):Prop where
  B:Av w b 125 [Co s,.int .i64 p,.slice ta ts.length tc,.slice ca cs.length cc]
  hb:base≤b
  ht:w.ownsRow base 115 3 (.slice ta ts.length tc) ts.length (Kt ts)
  hc:w.ownsRow base 115 3 (.slice ca cs.length cc) cs.length (Kt cs)
  n1:(Ez ta ts.length tc).ownBlock≠some b
  n2:(Ez ca cs.length cc).ownBlock≠some b
  n3:∀ k,(Ez ta ts.length tc).ownBlock=some k→(Ez ca cs.length cc).ownBlock≠some k
theorem Jn.a{base b:Nat}{s:List UInt8}{p:Nat}{ts cs:List EA}{ta:Option Addr}{tc:Nat}{ca:Option Addr}{cc:Nat}{w w1:Ad}(h:Jn base b s p ts cs ta tc ca cc w)(g:G w w1):Jn base b s p ts cs ta tc ca cc w1 :=
 { h with B:=h.B.a g,ht:=D7 h.ht g,hc:=D7 h.hc g }
theorem Jn.aq{base b:Nat}{s:List UInt8}{p:Nat}{ts cs:List EA}{ta:Option Addr}{tc:Nat}{ca:Option Addr}{cc:Nat}{w:Ad}(h:Jn base b s p ts cs ta tc ca cc w)(k1:ts.length≤p)(k2:cs.length≤p)(k3:p≤s.length)(k4:s.length≤20000):KY base b s p ts cs w :=
 ⟨ta,tc,ca,cc,h.B,h.hb,h.ht,h.hc,h.n1,h.n2,h.n3,k1,k2,k3,k4⟩
theorem KY.sa{base b:Nat}{s:List UInt8}{p:Nat}{ts cs:List EA}{w:Ad}(h:KY base b s p ts cs w):∃ ta tc ca cc,Jn base b s p ts cs ta tc ca cc w∧ts.length≤p∧cs.length≤p∧p≤s.length∧s.length≤20000:=by
 obtain ⟨ta,tc,ca,cc,hB,aa,ht,hc,n1,n2,n3,k1,k2,k3,k4⟩:=h;exact ⟨ta,tc,ca,cc,⟨hB,aa,ht,hc,n1,n2,n3⟩,k1,k2,k3,k4⟩
theorem Jn.ad{base b:Nat}{s:List UInt8}{p:Nat}{ts cs:List EA}{ta:Option Addr}{tc:Nat}{ca:Option Addr}{cc:Nat}{w:Ad}(h:Jn base b s p ts cs ta tc ca cc w):base≤w.heap.size:=by have:=h.hb;have:=h.B.lt;omega
theorem Jn.a4{base b:Nat}{s:List UInt8}{p q:Nat}{ts cs:List EA}{ta:Option Addr}{tc:Nat}{ca:Option Addr}{cc:Nat}{w w1:Ad}(h:Jn base b s p ts cs ta tc ca cc w)(hg:w.grownBy w1 (some b))
  (hB:Av w1 b 125 [Co s,.int .i64 q,.slice ta ts.length tc,.slice ca cs.length cc]):Jn base b s q ts cs ta tc ca cc w1 :=
 { h with B:=hB,ht:=Df h.ht hg (.inr h.n1),hc:=Df h.hc hg (.inr h.n2) }
theorem Rd{base b:Nat}{a wk w1 w2:Ad}(hb:Below base a wk)(g:G wk w1)(hg:w1.grownBy w2 (some b))(hz:base≤wk.heap.size)(h:base≤b):Below base a w2:=by
 have:=g.size;exact MZ (hb.trans (Lt g hz)) hg O (fun k hk=>by injection hk with hk;omega)
theorem KY.a{base b:Nat}{s:List UInt8}{p:Nat}{ts cs:List EA}{w w1:Ad}(h:KY base b s p ts cs w)(g:G w w1):KY base b s p ts cs w1:=by
 obtain ⟨ta,tc,ca,cc,h,k1,k2,k3,k4⟩:=h.sa;exact (h.a g).aq k1 k2 k3 k4
theorem Jn.b6{base b:Nat}{s:List UInt8}{p:Nat}{ts cs:List EA}{ta:Option Addr}{tc:Nat}{ca:Option Addr}{cc:Nat}{w w1 w2:Ad}{ab:Option Addr}{aa:Nat}{t:EA}(h:Jn base b s p ts cs ta tc ca cc w)
 (h1:w1.ownsRow base 115 3 (.slice ab (ts.length+1) aa) (ts.length+1) (Kt ts++Nz t)) (hg:w.grownBy w1 (Ez ta ts.length tc).ownBlock)
 (ad:(Ez ab (ts.length+1) aa).ownBlock=(Ez ta ts.length tc).ownBlock∨(Ez ab (ts.length+1) aa).ownBlock=some w.heap.size) (ac:w1.grownBy w2 (some b))
 (hB:Av w2 b 125 [Co s,.int .i64 p,.slice ab (ts.length+1) aa,.slice ca cs.length cc]):Jn base b s p (ts++[t]) cs ab aa ca cc w2:=by
 have n1:=Wc h.B.lt h.n1 ad;have hl:(ts++[t]).length=ts.length+1:=by simp
 have hc:=Wv h.hc h.n3 hg;refine ⟨by rw [hl];exact hB,h.hb,?_,Df hc ac (.inr h.n2),by rw [hl];exact n1,h.n2,?_⟩;rw [hl,TG];exact Df h1 ac (.inr n1);rw [hl];exact VU h.hc h.n3 ad
theorem Jn.b2{base b:Nat}{s:List UInt8}{p:Nat}{ts cs:List EA}{ta:Option Addr}{tc:Nat}{ca:Option Addr}{cc:Nat}{w w1 w2:Ad}{ab:Option Addr}{aa:Nat}{t:EA}(h:Jn base b s p ts cs ta tc ca cc w)
 (h1:w1.ownsRow base 115 3 (.slice ab (cs.length+1) aa) (cs.length+1) (Kt cs++Nz t)) (hg:w.grownBy w1 (Ez ca cs.length cc).ownBlock)
 (ae:(Ez ab (cs.length+1) aa).ownBlock=(Ez ca cs.length cc).ownBlock∨(Ez ab (cs.length+1) aa).ownBlock=some w.heap.size) (ad:w1.grownBy w2 (some b))
 (hB:Av w2 b 125 [Co s,.int .i64 p,.slice ta ts.length tc,.slice ab (cs.length+1) aa]):Jn base b s p ts (cs++[t]) ta tc ab aa w2:=by
 have n2:=Wc h.B.lt h.n2 ae;have hl:(cs++[t]).length=cs.length+1:=by simp
 have ac:∀ k,(Ez ca cs.length cc).ownBlock=some k→(Ez ta ts.length tc).ownBlock≠some k:=fun k hk he=>h.n3 k he hk;have ht:=Wv h.ht ac hg;refine ⟨by rw [hl];exact hB,h.hb,Df ht ad (.inr h.n1),?_,h.n1,by rw [hl];exact n2,?_⟩;rw [hl,TG];exact Df h1 ad (.inr n2);rw [hl];exact fun k hk he=>VU h.ht ac ae k he hk
def R8(t:EA):Bool:=(Ae (t.c=1) || Ae (t.c=2)) || Jd SY t.i
def Lu(p:Nat)(ts:List EA):List EA:=match ts.getLast? with
 | some t=>if R8 t=true then ts++[⟨4,[59],p⟩] else ts
 | none=>ts
theorem vN{w:Ad}{b:Nat}{aa:List EA}{t:EA}(h:Cv w b 0 (Kt (aa++[t]))):Cv w b (0+(((aa++[t]).length:Nat)-1:Int).toNat*3) (Nz t):=by
 have e:(((aa++[t]).length:Nat)-1:Int).toNat=aa.length:=by simp
 have k:=h.part (aa.length*3) 3;rw [e]
 have e2:((Kt (aa++[t])).drop (aa.length*3)).take 3=Nz t:=by
  rw [TG,List.drop_append_of_le_length (by rw [YK];exact BM _),Jb (by rw [YK];exact BM _)];rfl
 rw [e2] at k;exact k
theorem vD(base b:Nat)(s:List UInt8)(p:Nat)(ts cs:List EA)(w:Ad)(hs:KY base b s p ts cs w)(h2:p<s.length) :
 Bx Aj 153 #[.pointer (some ⟨b,0,none⟩)] w fun v w'=>v = .tuple #[]∧KY base b s (p+1) (Lu p ts) cs w'∧Below base w w':=by
 obtain ⟨ta,tc,ca,cc,hs,k1,k2,k3,k4⟩:=hs.sa;have g:=G.refl w;have hb:Below base w w:=Below.refl _ _;refine Cj 53 [0] Tryz.func153 ?_;refine Ao (Ao (Ay (As U (Dd U (AF PS U (AL O1 U (by first|exact (hs.a g).B.j U) (ED Mg U (BO U (Al (kq (Ao (Ay (As U (RJ U U (Al (kq (CB U (fun h1=>?_) (fun h1=>?_))))))))))))))))));have hp:0<ts.length:=by simp only [BQ] at h1;omega
 obtain ⟨ac,t,am⟩:∃ ac t,ts=ac++[t]:=by
  rcases List.eq_nil_or_concat ts with e|⟨l,x,e⟩;rw [e] at hp;cases hp;exact ⟨l,x,by simpa using e⟩
 subst am;obtain ⟨bt,ct,ev,_,ai,_⟩:=Ly hs.ht hp;injection ev with e1 e2 e3;subst e1;have ag:=vN ai;have ab:Lu p (ac++[t])=if R8 t=true then (ac++[t])++[⟨4,[59],p⟩] else ac++[t]:=by simp [Lu]
 refine Ao (Ay (As U (Dd U (AF PS U (AL O1 U (by first|exact (hs.a g).B.j U) (As U (AG U (fun _=>JE (H U) Bl (fun _=>O)) (Hh Mg U U O (CH Zs U U (ag) (Nh fun _ _ _ _ g E=>?_))))))))));refine AS fun _ _ _ g E=>?_;refine R ?_;refine F4 (fun hc=>nH _ _) (Do fun aq aw g E=>?_);refine AG U (fun _=>Gv (H U) (Am U id)) (Al (kq (CB U (fun h2=>?_) (fun h2=>?_))));rw [CP (show R8 t=true from h2)] at ab;have hl:(Lu p (ac++[t])).length≤p+1:=by rw [ab,DF];exact Nat.succ_le_succ k1
 refine C9 [3,3,3,3,0,3,3,3,0,3,1,2,3,3,2] ?_;refine Ft fun g E=>?_;refine As U (As U (Dd U (AF PS U (AL O1 U (by first|exact (hs.a g).B.j U|exact E.E.j U|exact E.E.row) (As U (Dd U (AF H6 U (AL Cd U (by first|exact (hs.a g).B.j U|exact E.E.j U|exact E.E.row) (Gi Od Sf (A5 U (A5 U (A5 U Cz))) U U (Ch fun _ _ ak _ g E=>?_))))))))));have hb:=hb.trans (Lt g hs.ad);have hs:=hs.a g;have au:=hs.ad;refine ID U Mg Od U Cb (H U) hs.ht (H U) U ak.p.row U (by simp only [maxLen];omega) O O ?_;intro ap av ar al ad aj;have hB:=hs.B.A ad (Ne.symm hs.n1);have hz:=ad.size;refine R ?_;refine CZ U Tr (H U) (H U) U U hB U U ?_;intro an ae ao hB;have hb:=MZ (MZ hb ad hs.ad (fun k hk=>(hs.ht.lt k hk).1)) ae (by have:=hs.ad;omega) (fun k hk=>by injection hk with hk;have:=hs.hb;omega);have hs:=hs.b6 (t:=⟨4,[59],p⟩) al ad aj ae hB;have g:=G.refl an;refine R ?_;refine CZ U IU (H U) (H U) U U (hs.a g).B U U ?_;intro ah aa af hB;have hb:=Rd hb g aa hs.ad hs.hb;have hs:=(hs.a g).a4 (q:=p+1) aa hB;refine Al (Hl U ?_);refine ⟨rfl,?_,hb⟩;rw [ab] at hl ⊢;exact hs.aq hl O O k4;rw [CJ (by intro h;rw [R8,h2] at h;cases h)] at ab;have hl:(Lu p (ac++[t])).length≤p+1:=by rw [ab];omega
 refine R ?_;refine CZ U IU (H U) (H U) U U (hs.a g).B U U ?_;intro ah aa af hB;have hb:=Rd hb g aa hs.ad hs.hb;have hs:=(hs.a g).a4 (q:=p+1) aa hB;refine Al (Hl U ?_);refine ⟨rfl,?_,hb⟩;rw [ab] at hl ⊢;exact hs.aq hl O O k4;have hp:ts=[]:=List.eq_nil_of_length_eq_zero (by simp only [CK] at h1;omega);have ab:Lu p ts=ts:=by rw [hp];rfl
 have hl:(Lu p ts).length≤p+1:=by rw [ab];omega
 refine R ?_;refine CZ U IU (H U) (H U) U U (hs.a g).B U U ?_;intro ah aa af hB;have hb:=Rd hb g aa hs.ad hs.hb;have hs:=(hs.a g).a4 (q:=p+1) aa hB;refine Al (Hl U ?_);refine ⟨rfl,?_,hb⟩;rw [ab] at hl ⊢;exact hs.aq hl O O k4
def DJ(q:Int→Bool):List UInt8→Nat
 | []=>0
 | c::l=>if q c.toNat=true then DJ q l+1 else 0
theorem YG{q:Int→Bool}{s:List UInt8}{k:Nat}(h:k<s.length)(hq:q (s.getD k 0).toNat=true):DJ q (s.drop k)=DJ q (s.drop (k+1))+1:=by
 rw [Jo h,DJ,CP (by simpa [CW,Bh h] using hq)]
theorem lK{q:Int→Bool}{s:List UInt8}{k:Nat}(h:k<s.length→q (s.getD k 0).toNat=false):DJ q (s.drop k)=0:=by
 by_cases hk:k<s.length;rw [Jo hk,DJ,CJ];have:=h hk;simp [CW,Bh hk] at this;simp [this];rw [Jb O];rfl
theorem tJ(q:Int→Bool)(l:List UInt8):DJ q l≤l.length:=by
 induction l with
 | nil=>exact BM _
 | cons c l ih=>rw [DJ];split <;> simp <;> omega
theorem T2(base b:Nat)(s:List UInt8)(p:Nat)(ts cs:List EA)(w:Ad)(hs:KY base b s p ts cs w)(f:Nat)(q:Int→Bool)(ab:Bt Aj f=true)(hf:∀ c w,Bx Aj f #[.int .u8 c] w fun v w'=>v = .bool (q c)∧G w w') :
 Bx Aj 155 #[.pointer (some ⟨b,0,none⟩),.func (.func f) #[] #[]] w fun v w'=>v = .int .i64 (DJ q (s.drop p))∧G w w':=by
 obtain ⟨ta,tc,ca,cc,hs,k1,k2,k3,k4⟩:=hs.sa;have g:=G.refl w;refine Cj 36 [0,1] Tryz.func155 ?_;refine R ?_;refine QP (fun (n:Nat) u=>p+n≤s.length∧DJ q (s.drop p)=n+DJ q (s.drop (p+n))∧G w u) (fun n=>[(0,True,.pointer (some ⟨b,0,none⟩)),(1,True,.func (.func f) #[] #[]),(5,True,.int .i64 n)]) (fun n=>s.length-n) 0 ⟨O,by simp,g⟩ (K U (K U (K U (Bm _)))) ?_;rintro n u ⟨hn,he,g⟩;refine R ?_;refine C9 [3,3,3,0,3,3,3,3,3,0,3,3,3,3,3,3,3,0,3,3,3,0,3,3,3,1,3] ?_;have g:=Ho g;refine R ?_;refine AD U U U (fun _=>OB JR (Am U id) (Am U id) (fun hc=>by have:=AV hc.2;omega)) (E9 U U U (fun _=>(BK ab (Am U id) (Cu (Am U id) (CY)) U)) (fun hc=>hf _ _) (fun ad ac=>?_));have g:=g.trans ac;refine Az (fun h1=>?_) fun h1=>?_;simp only [Dv,BQ] at h1;obtain ⟨h1,h2⟩:=h1;have e:((p:Int)+n).toNat=p+n:=by omega
 rw [e] at h2;have aa:=YG O h2;refine R ?_;refine BL [0,1,5] ?_;refine Al (fun a ha=>?_);exact ⟨n+1,ha,⟨O,by rw [he,aa,Nat.add_assoc p n 1];omega,g⟩,O⟩
 have aa:DJ q (s.drop (p+n))=0:=lK fun hk=>by
  have e:((p:Int)+n).toNat=p+n:=by omega
  rw [e,BW (by omega:(p:Int)+n<s.length),HZ] at h1;exact h1
 refine AC ?_;refine ⟨?_,g⟩;rw [he,aa];rfl
end Go.Rk
namespace Go.Rk
open Go.Proofs
open Go Go.Shelf Go.RowKit
def uO:Go.Shelf.Ren:=⟨fun|174=>162|247=>166|245=>167|287=>168|279=>169|280=>170|281=>171|282=>172|321=>173|322=>174|316=>175|171=>177|205=>176|243=>178|246=>179|283=>180|284=>181|285=>182|286=>183|129=>185|317=>184|318=>186|319=>187|320=>188|337=>189|338=>190|n=>n,fun|9=>9|3=>3|2=>2|75=>134|85=>135|4=>4|167=>140|5=>5|53=>141|175=>142|46=>144|168=>145|37=>149|0=>0|210=>152|21=>21|127=>155|145=>158|143=>156|171=>160|173=>163|212=>167|51=>168|20=>20|213=>169|232=>172|233=>173|80=>174|n=>n,fun|15=>8|16=>9|17=>10|18=>11|19=>12|n=>n⟩
theorem Z7:Go.Proofs.LaysC.n174 Aj uO:={
 mixed:=Ai
 f129:=Tryz.func185.trans (congrArg some Ai)
 f171:=Tryz.func177.trans (congrArg some Ai)
 f174:=Tryz.func162.trans (congrArg some Ai)
 f205:=Tryz.func176.trans (congrArg some Ai)
 f243:=Tryz.func178.trans (congrArg some Ai)
 f245:=Tryz.func167.trans (congrArg some Ai)
 f246:=Tryz.func179.trans (congrArg some Ai)
 f247:=Tryz.func166.trans (congrArg some Ai)
 f279:=Tryz.func169.trans (congrArg some Ai)
 f280:=Tryz.func170.trans (congrArg some Ai)
 f281:=Tryz.func171.trans (congrArg some Ai)
 f282:=Tryz.func172.trans (congrArg some Ai)
 f283:=Tryz.func180.trans (congrArg some Ai)
 f284:=Tryz.func181.trans (congrArg some Ai)
 f285:=Tryz.func182.trans (congrArg some Ai)
 f286:=Tryz.func183.trans (congrArg some Ai)
 f287:=Tryz.func168.trans (congrArg some Ai)
 f316:=Tryz.func175.trans (congrArg some Ai)
 f317:=Tryz.func184.trans (congrArg some Ai)
 f318:=Tryz.func186.trans (congrArg some Ai)
 f319:=Tryz.func187.trans (congrArg some Ai)
 f320:=Tryz.func188.trans (congrArg some Ai)
 f321:=Tryz.func173.trans (congrArg some Ai)
 f322:=Tryz.func174.trans (congrArg some Ai)
 f337:=Tryz.func189.trans (congrArg some Ai)
 f338:=Tryz.func190.trans (congrArg some Ai)
 t0:=Tryz.underlying0
 a0:=Tryz.isAgg0
 z0:=Tryz.sizeOf0
 v0:=Tryz.zeroValue0
 t2:=Tryz.underlying2
 a2:=Tryz.isAgg2
 z2:=Tryz.sizeOf2
 v2:=Tryz.zeroValue2
 t3:=Tryz.underlying3
 a3:=Tryz.isAgg3
 z3:=Tryz.sizeOf3
 v3:=Tryz.zeroValue3
 t4:=Tryz.underlying4
 a4:=Tryz.isAgg4
 z4:=Tryz.sizeOf4
 v4:=Tryz.zeroValue4
 t5:=Tryz.underlying5
 a5:=Tryz.isAgg5
 z5:=Tryz.sizeOf5
 v5:=Tryz.zeroValue5
 t9:=Tryz.underlying9
 a9:=Tryz.isAgg9
 z9:=Tryz.sizeOf9
 v9:=Tryz.zeroValue9
 t20:=Tryz.underlying20
 a20:=Tryz.isAgg20
 z20:=Tryz.sizeOf20
 v20:=Tryz.zeroValue20
 t21:=Tryz.underlying21
 a21:=Tryz.isAgg21
 z21:=Tryz.sizeOf21
 v21:=Tryz.zeroValue21
 t37:=Tryz.underlying149
 a37:=Tryz.isAgg149
 z37:=Tryz.sizeOf149
 v37:=Tryz.zeroValue149
 t46:=Tryz.underlying144
 a46:=Tryz.isAgg144
 z46:=Tryz.sizeOf144
 v46:=Tryz.zeroValue144
 t51:=Tryz.underlying168
 a51:=Tryz.isAgg168
 z51:=Tryz.sizeOf168
 v51:=Tryz.zeroValue168
 t53:=Tryz.underlying141
 a53:=Tryz.isAgg141
 z53:=Tryz.sizeOf141
 v53:=Tryz.zeroValue141
 t75:=Tryz.underlying134
 a75:=Tryz.isAgg134
 z75:=Tryz.sizeOf134
 v75:=Tryz.zeroValue134
 t85:=Tryz.underlying135
 a85:=Tryz.isAgg135
 z85:=Tryz.sizeOf135
 v85:=Tryz.zeroValue135
 t127:=Tryz.underlying155
 a127:=Tryz.isAgg155
 z127:=Tryz.sizeOf155
 v127:=Tryz.zeroValue155
 t143:=Tryz.underlying156
 a143:=Tryz.isAgg156
 z143:=Tryz.sizeOf156
 v143:=Tryz.zeroValue156
 t145:=Tryz.underlying158
 a145:=Tryz.isAgg158
 z145:=Tryz.sizeOf158
 v145:=Tryz.zeroValue158
 t167:=Tryz.underlying140
 a167:=Tryz.isAgg140
 z167:=Tryz.sizeOf140
 v167:=Tryz.zeroValue140
 t168:=Tryz.underlying145
 a168:=Tryz.isAgg145
 z168:=Tryz.sizeOf145
 v168:=Tryz.zeroValue145
 t171:=Tryz.underlying160
 a171:=Tryz.isAgg160
 z171:=Tryz.sizeOf160
 v171:=Tryz.zeroValue160
 t173:=Tryz.underlying163
 a173:=Tryz.isAgg163
 z173:=Tryz.sizeOf163
 v173:=Tryz.zeroValue163
 t175:=Tryz.underlying142
 a175:=Tryz.isAgg142
 z175:=Tryz.sizeOf142
 v175:=Tryz.zeroValue142
 t210:=Tryz.underlying152
 a210:=Tryz.isAgg152
 z210:=Tryz.sizeOf152
 v210:=Tryz.zeroValue152
 t212:=Tryz.underlying167
 a212:=Tryz.isAgg167
 z212:=Tryz.sizeOf167
 v212:=Tryz.zeroValue167
 t213:=Tryz.underlying169
 a213:=Tryz.isAgg169
 z213:=Tryz.sizeOf169
 t232:=Tryz.underlying172
 a232:=Tryz.isAgg172
 z232:=Tryz.sizeOf172
 v232:=Tryz.zeroValue172
 t233:=Tryz.underlying173
 a233:=Tryz.isAgg173
 z233:=Tryz.sizeOf173
 v233:=Tryz.zeroValue173
 g15:=Ai
 g16:=Ai
 g17:=Ai
 g18:=Ai
 g19:=Ai
 t80:=Tryz.underlying174
 a80:=Tryz.isAgg174
 z80:=Tryz.sizeOf174
 v80:=Tryz.zeroValue174
 i0:=Ai
 i2:=Ai
 i3:=Ai
 i4:=Ai
 i5:=Ai
 i9:=Ai
 i20:=Ai
 i21:=Ai
 i37:=Ai
 i46:=Ai
 i51:=Ai
 i53:=Ai
 i75:=Ai
 i80:=Ai
 i85:=Ai
 i127:=Ai
 i143:=Ai
 i145:=Ai
 i167:=Ai
 i168:=Ai
 i171:=Ai
 i173:=Ai
 i175:=Ai
 i210:=Ai
 i212:=Ai
 i232:=Ai
 i233:=Ai
 m15:=Ai
 m16:=Ai
 m17:=Ai
 m18:=Ai
 m19:=Ai
 c0:=Ai
 c2:=Ai
 c3:=Ai
 c4:=Ai
 c5:=Ai
 c9:=Ai
 c20:=Ai
 c21:=Ai
 c37:=Ai
 c46:=Ai
 c51:=Ai
 c53:=Ai
 c75:=Ai
 c80:=Ai
 c85:=Ai
 c127:=Ai
 c143:=Ai
 c145:=Ai
 c167:=Ai
 c168:=Ai
 c171:=Ai
 c173:=Ai
 c175:=Ai
 c210:=Ai
 c212:=Ai
 c213:=Ai
 c232:=Ai
 c233:=by kernel_rfl }
def Jp(a:Nat)(l:List UInt8):Nat:=l.foldl (fun a c=>a*10+(c.toNat-48)) a
def Sm(l:List UInt8):Prop:=∀ c∈l,48≤c.toNat∧c.toNat≤57
theorem aJ(a:Nat)(c:UInt8)(l:List UInt8):Jp a (c::l)=Jp (a*10+(c.toNat-48)) l:=List.foldl_cons ..
theorem Aau(l:List UInt8):∀ a,a≤Jp a l:=by
 induction l with
 | nil=>exact fun a=>BM _
 | cons c l ih=>intro a;have:=ih (a*10+(c.toNat-48));rw [aJ];omega
theorem aT(M:Nat)(hM:M=18446744073709551615):∀ (l:List UInt8) (a:Nat),Sm l→Lib.parseUintM M a l=if l=[] then .ok a else if Jp a l≤M then .ok (Jp a l) else .range
 | [],a,_=>rfl
 | c::l,a,h=>by
  have hc:=h c (F9 ..);have ih:=aT M hM l (a*10+(c.toNat-48)) (fun x hx=>h x (I4 _ hx));have aa:=Aau l (a*10+(c.toNat-48));rw [CJ (by simp:¬ (c::l)=[]),aJ];rw [Lib.parseUintM,CP hc];generalize hv:a*10+(c.toNat-48)=v at ih aa ⊢;by_cases h1:1844674407370955162≤a;rw [CP h1,CJ O];rw [CJ h1];by_cases h2:M<v;rw [CP h2,CJ O];rw [CJ h2,ih];by_cases hl:l=[];subst hl;rw [CP rfl];rw [CP (show Jp v []≤M by show v≤M;omega)];rfl;rw [CJ hl]
theorem tO(l:List UInt8)(h:Sm l)(aa:l≠[]):Lib.parseIntB 64 l=if Jp 0 l<9223372036854775808 then .ok (Jp 0 l:Int) else .range:=by
 cases l with
 | nil=>exact absurd rfl aa
 | cons c r =>
  have hc:=h c (F9 ..);have e1:(2:Nat) ^ (64-1)=9223372036854775808:=by decide
  have e2:(2:Nat) ^ 64-1=18446744073709551615:=by decide
  have hm:=aT _ rfl (c::r) 0 h;rw [CJ (by simp:¬ (c::r)=[])] at hm;simp only [Lib.parseIntB,Lib.parseUintB,e1,e2];rw [CJ (by omega:¬ (c.toNat=43∨c.toNat=45)),CJ (by simp:¬ (c::r)=[]),hm];by_cases h2:Jp 0 (c::r)≤18446744073709551615;rw [CP h2];by_cases h3:Jp 0 (c::r)<9223372036854775808;rw [CP h3];simp only [];rw [CJ O,CJ O,CJ O];rw [CJ h3];simp only [];rw [CP O];rw [CJ h2,CJ O]
theorem vJ(l:List UInt8)(h:Sm l)(ab:l≠[])(hl:l.length≤20000)(w:Ad)(ev:Ak)(hv:w.cell? ⟨9,0,none⟩=some ev)(aa:ev = .nilIface∨∃ te pe,ev = .iface te pe) :
 Bx Aj 162 #[Co l,.int .i64 10,.int .i64 64] w fun v w'=>(∃ x e,v = .tuple #[.int .i64 x,e]∧(e = .nilIface∨∃ a b,e = .iface a b)∧Pb e=Ae (Jp 0 l<9223372036854775808))∧G w w':=by
 have hp:=tO l h ab;by_cases h3:Jp 0 l<9223372036854775808;rw [CP h3] at hp;refine (Go.Proofs.Any.strconv_ParseInt_10_at64_ok Z7 ⟨l.toArray⟩ (by simp [ByteArray.size];omega) _ (by simpa using hp) w).mono ?_;rintro e w' ⟨rfl,hw⟩;refine ⟨_,rfl,⟨_,.nilIface,rfl,.inl rfl,by rw [BW h3];rfl⟩,?_⟩;rcases hw with rfl|⟨t,rfl⟩;exact G.refl _;exact Lib.bytesWorld_below _ _ _;rw [CJ h3] at hp;refine (Go.Proofs.Any.strconv_ParseInt_10_at64_range Z7 ⟨l.toArray⟩ (by simp [ByteArray.size];omega) (by simpa using hp) ev w hv aa).mono ?_;rintro e w' ⟨N,rfl,_,_,hb⟩;exact ⟨_,rfl,⟨_,_,rfl,.inr ⟨_,_,rfl⟩,by rw [Aq h3];rfl⟩,hb⟩
end Go.Rk
namespace Go.Rk
open Go.Proofs
open Go Go.RowKit
def Hn:List (List UInt8):=[[58,61],[61,61],[33,61],[60,61],[62,61],[38,38],[124,124],[60,45],[40],[41],[91],[93],[123],[125],[44],[59],[58],[46],[61],[60],[62],[43],[45],[42],[47],[37],[33]]
structure Laid (w:Ad):Prop where
  ops:Cv w 7 0 (Hn.map Co)
  err:∃ ev,w.cell? ⟨9,0,none⟩=some ev∧(ev = .nilIface∨∃ te pe,ev = .iface te pe)
theorem Laid.below{w w':Ad}{base:Nat}(h:Laid w)(hb:10≤base)(g:Below base w w'):Laid w' :=
 ⟨fun j v hj=>(Below.cell g (show 7<base by omega)).trans (h.ops j v hj),by
 obtain ⟨ev,h1,h2⟩:=h.err;exact ⟨ev,(Below.cell g (show 9<base by omega)).trans h1,h2⟩⟩
theorem Laid.a{w w':Ad}(h:Laid w)(g:G w w'):Laid w' :=
 ⟨h.ops.a g,by
 obtain ⟨ev,h1,h2⟩:=h.err;exact ⟨ev,QM g h1,h2⟩⟩
def EJ(s:List UInt8)(p:Nat):Int:=((s.getD p 0).toNat:Int)
def Ld(c:Int):Bool:=!Ae (c=10)
def G1(c:Int):Bool:=I2 c || Fx c
def MV(l:List UInt8):Nat:=match Hn.find? (fun o=>IV o l) with
 | some o=>o.length
 | none=>0
def Rw(s:List UInt8)(p n:Nat):Bool:=(Ae (EJ s p=48)&&Ae ((1:Int)<n)) || (Ae ((p:Int)+n<s.length)&&I2 (EJ s (p+n)))
def Rv(l:List UInt8):Int:=bif Jd Kv l then 3 else 1
def Fh(s:List UInt8)(p:Nat)(ts cs:List EA):Nat×List EA×List EA×Int :=
 bif Ae (EJ s p=10) then (p+1,Lu p ts,cs,0)
 else bif (Ae (EJ s p=32) || Ae (EJ s p=9)) || Ae (EJ s p=13) then (p+1,ts,cs,0)
 else bif IV [47,47] (s.drop p) then (p+DJ Ld (s.drop p),ts,cs++[⟨5,(s.drop p).take (DJ Ld (s.drop p)),p⟩],0)
 else bif I2 (EJ s p) then bif Ae ((32:Int)<DJ G1 (s.drop p)) then (p,ts,cs,3)
  else (p+DJ G1 (s.drop p),ts++[⟨Rv ((s.drop p).take (DJ G1 (s.drop p))),(s.drop p).take (DJ G1 (s.drop p)),p⟩],cs,0)
 else bif Fx (EJ s p) then bif Rw s p (DJ Fx (s.drop p)) then (p,ts,cs,4)
  else bif Ae (Jp 0 ((s.drop p).take (DJ Fx (s.drop p)))<9223372036854775808) then (p+DJ Fx (s.drop p),ts++[⟨2,(s.drop p).take (DJ Fx (s.drop p)),p⟩],cs,0) else (p,ts,cs,4)
 else bif Ap (MV (s.drop p)) 0 then (p,ts,cs,4)
 else (p+MV (s.drop p),ts++[⟨4,(s.drop p).take (MV (s.drop p)),p⟩],cs,0)
theorem OA{q:Int→Bool}{s:List UInt8}{p:Nat}(h:p<s.length)(hq:q (EJ s p)=true):1≤DJ q (s.drop p):=by rw [YG h hq];omega
theorem S8(q:Int→Bool){s:List UInt8}{p:Nat}(h:p<s.length):p+DJ q (s.drop p)≤s.length:=by
 have:=tJ q (s.drop p);rw [Gg] at this;omega
theorem U4(q:Int→Bool):∀ (l:List UInt8),∀ c∈l.take (DJ q l),q c.toNat=true
 | [],c,hc=>by cases hc
 | a::l,c,hc=>by
  rw [DJ] at hc;split at hc;rename_i h;rw [Jm] at hc;rcases List.mem_cons.mp hc with rfl|hc;exact h;exact U4 q l c hc;cases hc
theorem mU(s:List UInt8)(p:Nat):Sm ((s.drop p).take (DJ Fx (s.drop p))):=fun c hc=>by
 have:=U4 Fx _ c hc;simp only [Fx,Dv,BQ] at this;omega
theorem tY{i:Nat}(h:i<27):(Hn.map Co).toArray[i]? = some (Co (Hn.getD i [])):=by
 have hl:Hn.length=27:=rfl;simp [CW,Bh (show i<Hn.length by omega)]
theorem sZ:∀ i<27,1≤(Hn.getD i []).length:=by decide
theorem kO{l:List UInt8}{i:Nat}(h:i<27)(h1:∀ j<i,IV (Hn.getD j []) l=false)(h2:IV (Hn.getD i []) l=true):MV l=(Hn.getD i []).length:=by
 have hl:Hn.length=27:=rfl
 have:Hn.find? (fun o=>IV o l)=some (Hn.getD i []):=by
  rw [Ka];refine ⟨h2,i,O,?_,fun j hj=>?_⟩;simp [CW,Bh (show i<Hn.length by omega)];have:=h1 j hj;simp [CW,Bh (show j<Hn.length by omega)] at this;simp [this]
 rw [MV,this]
theorem Aaf{l:List UInt8}(h1:∀ j<27,IV (Hn.getD j []) l=false):MV l=0:=by
 have hl:Hn.length=27:=rfl
 have:Hn.find? (fun o=>IV o l)=none:=by
  rw [J9];intro o ho;obtain ⟨j,hj,rfl⟩:=Gx ho;have:=h1 j O;simp [CW,Bh hj] at this;simp [this]
 rw [MV,this]
theorem xU{o l:List UInt8}(h:IV o l=true):o.length≤l.length∧l.take o.length=o:=by
 simpa [IV] using h
theorem pH(base b:Nat)(bw:10≤base)(s:List UInt8)(p:Nat)(ts cs:List EA)(w:Ad)(hL:Laid w)(hs:KY base b s p ts cs w)(hp:p<s.length) :
 Bx Aj 149 #[.pointer (some ⟨b,0,none⟩)] w fun v w'=>v = .int .i64 (Fh s p ts cs).2.2.2∧KY base b s (Fh s p ts cs).1 (Fh s p ts cs).2.1 (Fh s p ts cs).2.2.1 w'∧Below base w w':=by
 obtain ⟨ta,tc,ca,cc,hs,k1,k2,k3,k4⟩:=hs.sa;have g:=G.refl w;refine JW (m:=204) Tryz.func149 U U [(0,True,_)] (K U (Bm _)) ?_;refine Ao (Ay (BO U (Al (kq (Ao (C9 [3,3,3,0,3,3,3,0,3,3] ?_))))));have g:=Ho g;refine As U (Dd U (AF MX U (AL DU U (by first|exact (hs.a g).B.j U) (As U (Dd U (AF H6 U (AL Cd U (by first|exact (hs.a g).B.j U) (AG U (fun _=>OB JR (H U) (H U) (fun _=>O)) (BO U (Al (kq (Ao (DY (Ao (Ay (As U (?_)))))))))))))))));refine FM U U (BO U (Al (kq (CB U (fun h1=>?_) (fun h1=>?_)))));have h1:Ae (EJ s p=10)=true:=h1;have hN:Fh s p ts cs=(p+1,Lu p ts,cs,0):=by unfold Fh;rw [h1];rfl
 refine Ay (As U (AK (vD base b s p ts cs _ ((hs.a g).aq k1 k2 k3 k4) hp) ?_));rintro b2 bu ⟨rfl,ab,aa⟩;refine ⟨E3,?_⟩;have aa:=(Lt g hs.ad).trans aa;refine Al (kq (Ao (Ay (BO U (Al (kq (DZ (FJ U U ?_))))))));rw [hN];exact ⟨rfl,ab,aa⟩;have h1:Ae (EJ s p=10)=false:=h1;refine Ao (Ay (As U (FM U U (As U (AD U U U (fun _=>A9 (H U)) (AD U U U (fun _=>GA (Am U id) Bl) (AG U (fun _=>Gv (H U) (Am U id)) (As U (AD U U U (fun _=>A9 (H U)) (AD U U U (fun _=>GA (Am U id) Bl) (AG U (fun _=>Gv (H U) (Am U id)) (BO U (Al (kq (CB U (fun h2=>?_) (fun h2=>?_))))))))))))))));have h2:((Ae (EJ s p=32) || Ae (EJ s p=9)) || Ae (EJ s p=13))=true:=h2;have hN:Fh s p ts cs=(p+1,ts,cs,0):=by unfold Fh;rw [h1,h2];rfl
 refine Ay (As U (Dd U (AF H6 U (AL Cd U (by first|exact (hs.a g).B.j U) (IB U U O (Dd U (AF H6 U (CZ U IU (H U) (H U) U U (hs.a g).B U U ?_))))))));intro bz aj be hB;have aa:=Rd (Below.refl _ _) g aj hs.ad hs.hb;have ab:=((hs.a g).a4 (q:=p+1) aj hB).aq O O O k4;refine Al (kq (Ao (Ay (BO U (Al (kq (DZ (FJ U U ?_))))))));rw [hN];exact ⟨rfl,ab,aa⟩;have h2:((Ae (EJ s p=32) || Ae (EJ s p=9)) || Ae (EJ s p=13))=false:=h2;refine Ao (C9 [3,3,3,0,3,3,3,0,3,1,3] ?_);have g:=Ho g;refine As U (Dd U (AF MX U (AL DU U (by first|exact (hs.a g).B.j U) (As U (Dd U (AF H6 U (AL Cd U (by first|exact (hs.a g).B.j U) (AG U (fun _=>dX JR (H U) (H U) (fun _=>O)) (F1 U (BK Xu Cf (CF U (CF U CT)) U) (XT _ _ _) (fun bv a6=>?_))))))))));have g:=g.trans a6;refine BO U (Al (kq (CB U (fun h3=>?_) (fun h3=>?_))));have h3:IV [47,47] (s.drop p)=true:=h3;have hn:=OA (q:=Ld) hp (by rw [Ld,h1];rfl);have hf:=S8 Ld hp;have hN:Fh s p ts cs=(p+DJ Ld (s.drop p),ts,cs++[⟨5,(s.drop p).take (DJ Ld (s.drop p)),p⟩],0):=by unfold Fh;rw [h1,h2,h3];rfl
 have e:((p:Int)+(DJ Ld (s.drop p):Nat)).toNat-(p:Int).toNat=DJ Ld (s.drop p):=by omega
 refine Ao (Ay (As U (F1 U (BK VE Cf (CF U (CF U CT)) U) (T2 base b s p ts cs _ ((hs.a g).aq k1 k2 k3 k4) _ Ld Aaw vX) (fun b0 az=>?_))));have g:=g.trans az;refine BO U (Al (kq (Ao (C9 [3,3,3,3,0,3,3,3,0,3,3,3,0,3,3,3,0,3,3,3,3,3,3,0,3,1,2,3,3,2] ?_))));have g:=Ho g;refine As U (As U (Dd U (AF Uz U (AL O1 U (by first|exact (hs.a g).B.j U) (As U (Dd U (AF MX U (AL DU U (by first|exact (hs.a g).B.j U) (As U (Dd U (AF H6 U (AL Cd U (by first|exact (hs.a g).B.j U) (As U (Dd U (AF H6 U (?_))))))))))))))));refine AL Cd U (by first|exact (hs.a g).B.j U) (As U (IB U U O (AG U (fun _=>QT JR (H U) (H U) (H U) (fun _=>O)) (As U (Dd U (AF H6 U (AL Cd U (by first|exact (hs.a g).B.j U) (Gi Od Sf (A5 U (A5 U (A5 U Cz))) U U (TJ fun _ _ ay _ g E=>?_)))))))));have hb:=Lt g hs.ad;have hs:=hs.a g;have bt:=hs.ad;refine ID U Mg Od U Cb (H U) hs.hc (H U) U ay.p.row U (by simp only [maxLen];omega) O O ?_;intro bs bp bg ar ac a2;have hB:=hs.B.A ac (Ne.symm hs.n2);have hz:=ac.size;refine Dd U (AF Uz U (CZ U Tr (H U) (H U) U U hB U U ?_));intro am ag a3 hB
 have hb:=MZ (MZ hb ac hs.ad (fun k hk=>(hs.hc.lt k hk).1)) ag (by have:=hs.ad;omega) (fun k hk=>by injection hk with hk;have:=hs.hb;omega);rw [e] at ar;have hs:=hs.b2 (t:=⟨5,(s.drop p).take (DJ Ld (s.drop p)),p⟩) ar ac a2 ag hB;have g:=G.refl am;refine Al (kq (Ay (As U (Dd U (AF H6 U (AL Cd U (by first|exact (hs.a g).B.j U|exact E.E.j U|exact E.E.row) (As U (IB U U O (Dd U (AF H6 U (CZ U IU (H U) (H U) U U (hs.a g).B U U ?_)))))))))));intro ba ai a8 hB;have aa:=Rd hb g ai hs.ad hs.hb;have ab:=((hs.a g).a4 (q:=p+DJ Ld (s.drop p)) ai hB).aq O (by rw [DF];show cs.length+1≤_;omega) hf k4;refine FD [(2,_,_)] (K U (Bm _)) (Al (kq (Ao (Ay (BO U (Al (kq (DZ (FJ U U ?_)))))))));rw [hN];exact ⟨rfl,ab,aa⟩;have h3:IV [47,47] (s.drop p)=false:=h3;refine Ao (Ay (As U (F1 U (BK X6 Cf (CF U CT) U) (Wu _ _) (fun a9 ax=>?_))));have g:=g.trans ax;refine BO U (Al (kq (CB U (fun h4=>?_) (fun h4=>?_))));have h4:I2 (EJ s p)=true:=h4;have hn:=OA (q:=G1) hp (by rw [G1,h4];rfl);have hf:=S8 G1 hp;have e:((p:Int)+(DJ G1 (s.drop p):Nat)).toNat-(p:Int).toNat=DJ G1 (s.drop p):=by omega
 refine Ao (Ay (As U (F1 U (BK VE Cf (CF U (CF U CT)) U) (T2 base b s p ts cs _ ((hs.a g).aq k1 k2 k3 k4) _ G1 tW qN) (fun bn aq=>?_))));have g:=g.trans aq;refine BO U (Al (kq (Ao (Ao (Ay (As U (RJ U U (Al (kq (CB U (fun h5=>?_) (fun h5=>?_)))))))))));have hN:Fh s p ts cs=(p,ts,cs,3):=by unfold Fh;rw [h1,h2,h3,h4,h5];rfl
 have ab:=(hs.a g).aq k1 k2 k3 k4;have aa:=Lt g hs.ad;refine Ao (Ay (BO U (Al (kq (DZ (FJ U U ?_))))));rw [hN];exact ⟨rfl,ab,aa⟩;refine CU (kq (Ao (Ay (BO U (Al (kq (Ao (Ao (C9 [3,3,3,0,3,3,3,0,3,3,3,0,3,3,3,1] ?_)))))))));have g:=Ho g;refine As U (Dd U (AF MX U (AL DU U (by first|exact (hs.a g).B.j U) (As U (Dd U (AF H6 U (AL Cd U (by first|exact (hs.a g).B.j U) (As U (Dd U (AF H6 U (AL Cd U (by first|exact (hs.a g).B.j U) (As U (IB U U O (AG U (fun _=>QT JR (H U) (H U) (H U) (fun _=>O)) (F1 U (BK sM Cf (CF U CT) U) (vC _ _) (fun bo an=>?_))))))))))))))));have g:=g.trans an;refine Al (kq (CB U (fun h6=>?_) (fun h6=>?_)));rw [e] at h6;have h6:Jd Kv ((s.drop p).take (DJ G1 (s.drop p)))=true:=h6;have hN:Fh s p ts cs=(p+DJ G1 (s.drop p),ts++[⟨3,(s.drop p).take (DJ G1 (s.drop p)),p⟩],cs,0):=by unfold Fh;rw [h1,h2,h3,h4,h5,Rv,h6];rfl
 refine Ay (BO U (Al (kq (Ay (As U (As U (As U (AK (SB base b s p ts cs _ _ _ ((hs.a g).aq k1 k2 k3 k4) hn hf) ?_))))))));rintro al ao ⟨rfl,ab,aa⟩;refine ⟨E3,?_⟩;have aa:=(Lt g hs.ad).trans aa;refine Al (kq (Ao (Ay (BO U (Al (kq (DZ (FJ U U ?_))))))));rw [hN];exact ⟨rfl,ab,aa⟩;rw [e] at h6;have h6:Jd Kv ((s.drop p).take (DJ G1 (s.drop p)))=false:=h6;have hN:Fh s p ts cs=(p+DJ G1 (s.drop p),ts++[⟨1,(s.drop p).take (DJ G1 (s.drop p)),p⟩],cs,0):=by unfold Fh;rw [h1,h2,h3,h4,h5,Rv,h6];rfl
 refine CU (kq (Ay (As U (As U (As U (AK (SB base b s p ts cs _ _ _ ((hs.a g).aq k1 k2 k3 k4) hn hf) ?_))))));rintro al ao ⟨rfl,ab,aa⟩;refine ⟨E3,?_⟩;have aa:=(Lt g hs.ad).trans aa;refine Al (kq (Ao (Ay (BO U (Al (kq (DZ (FJ U U ?_))))))));rw [hN];exact ⟨rfl,ab,aa⟩;have h4:I2 (EJ s p)=false:=h4;refine Ao (Ay (As U (F1 U (BK bL Cf (CF U CT) U) (VQ _ _) (fun bj ap=>?_))));have g:=g.trans ap;refine BO U (Al (kq (CB U (fun h7=>?_) (fun h7=>?_))));have h7:Fx (EJ s p)=true:=h7;have hn:=OA (q:=Fx) hp h7;have hf:=S8 Fx hp;have e:((p:Int)+(DJ Fx (s.drop p):Nat)).toNat-(p:Int).toNat=DJ Fx (s.drop p):=by omega
 refine Ao (Ay (As U (F1 U (BK VE Cf (CF U (CF U CT)) U) (T2 base b s p ts cs _ ((hs.a g).aq k1 k2 k3 k4) _ Fx bL VQ) (fun bc aw=>?_))));have g:=g.trans aw;refine BO U (Al (kq (Ao (Ao (C9 [3,3,3,3,3,3,3,3,3,3,0,3,3,3,3,3,0,3,3,3,3,3,3,0,3,3,3,0,3,3,3,1,3,3] ?_)))));have g:=Ho g;refine As U (FM U U (As U (AD U U U (fun _=>A9 (H U)) (AD U U U (fun _=>QJ (Am U id) Bl) (AG U (fun _=>ES (H U) (Am U id)) (As U (AD U U U (fun _=>A9 (H U)) (AD U U U (fun _=>F8 (Am U id)) (AD U U U (fun _=>AE H6 (Am U id)) (BU U U U (AU Cd (Am U id) (fun _=>by first|exact (hs.a g).B.j U)) (AD U U U (fun _=>A9 (H U)) (AD U U U (fun _=>TL (Am U id) (Am U id) (fun _=>O)) (AD U U U (fun _=>A9 (H U)) (AD U U U (fun _=>F8 (Am U id)) (AD U U U (fun _=>AE MX (Am U id)) (?_))))))))))))))))
 refine BU U U U (AU DU (Am U id) (fun _=>by first|exact (hs.a g).B.j U)) (AD U U U (fun _=>SL JR (Am U id)) (AD U U U (fun _=>Pn (Am U id) (Am U id)) (AD U U U (fun _=>A9 (Am U id)) (AD U U U (fun _=>A9 (H U)) (AD U U U (fun _=>F8 (Am U id)) (AD U U U (fun _=>AE MX (Am U id)) (BU U U U (AU DU (Am U id) (fun _=>by first|exact (hs.a g).B.j U)) (AD U U U (fun _=>A9 (H U)) (AD U U U (fun _=>F8 (Am U id)) (AD U U U (fun _=>AE H6 (Am U id)) (BU U U U (AU Cd (Am U id) (fun _=>by first|exact (hs.a g).B.j U)) (AD U U U (fun _=>A9 (H U)) (AD U U U (fun _=>TL (Am U id) (Am U id) (fun _=>O)) (AD U U U (fun _=>OB JR (Am U id) (Am U id) (fun hc=>by have:=AV hc.2;omega)) (E9 U U U (fun _=>(BK X6 Cf (Cu (Am U id) (CY)) U)) (fun hc=>Wu _ _) (fun bf av=>?_))))))))))))))));have g:=g.trans av;refine AD U U U (fun _=>ES (Am U id) (Am U id)) (AG U (fun _=>Gv (H U) (Am U id)) (FD [(0,_,_),(2,_,_),(7,_,_),(179,_,_)] (K U (K U (K U (K U (Bm _))))) (Al (kq (CB U (fun h8=>?_) (fun h8=>?_))))));have h8:Rw s p (DJ Fx (s.drop p))=true:=h8;have hN:Fh s p ts cs=(p,ts,cs,4):=by unfold Fh;rw [h1,h2,h3,h4,h7,h8];rfl
 have ab:=(hs.a g).aq k1 k2 k3 k4;have aa:=Lt g hs.ad;refine Ao (Ay (BO U (Al (kq (DZ (FJ U U ?_))))));rw [hN];exact ⟨rfl,ab,aa⟩;have h8:Rw s p (DJ Fx (s.drop p))=false:=h8;obtain ⟨ev,a1,a5⟩:=hL.err;have a4:((s.drop p).take (DJ Fx (s.drop p))).length=DJ Fx (s.drop p):=by rw [E1,Gg];omega
 refine CU (kq (Ao (Ao (C9 [3,3,3,0,3,3,3,0,3,3,3,0,3,3,3,1,3,3,3,3,3] ?_))));have g:=Ho g;refine As U (Dd U (AF MX U (AL DU U (by first|exact (hs.a g).B.j U) (As U (Dd U (AF H6 U (AL Cd U (by first|exact (hs.a g).B.j U) (As U (Dd U (AF H6 U (AL Cd U (by first|exact (hs.a g).B.j U) (As U (IB U U O (AG U (fun _=>QT JR (H U) (H U) (H U) (fun _=>O)) (Fg U (BK oQ Cf (CF U (CF U (CF U CT))) U) (vJ _ (by rw [e];exact mU s p) (by rw [e];intro h0;have h0:=congrArg List.length h0;rw [show (List.take (DJ Fx (s.drop p)) (List.drop (p:Int).toNat s)).length=DJ Fx (s.drop p) from a4] at h0;simp at h0;omega) (by rw [e];show ((s.drop p).take (DJ Fx (s.drop p))).length≤20000;omega) _ ev (QM g a1) a5) ?_)))))))))))))));rintro bk bm ⟨⟨x,Hi,rfl,a7,ae⟩,au⟩;refine ER au fun g=>?_;replace ae:Pb Hi=Ae (Jp 0 ((s.drop p).take (DJ Fx (s.drop p)))<9223372036854775808):=by rw [e] at ae;exact ae
 refine As U (Li U U (Li U U (BO U (BO U (Al (kq (Ao (Ay (As U (AG U (fun _=>V2 YC (H U) a7) (Al (kq (CB U (fun h9=>?_) (fun h9=>?_))))))))))))));have h9:Ae (Jp 0 ((s.drop p).take (DJ Fx (s.drop p)))<9223372036854775808)=false:=by have h9:(!Pb Hi)=true:=h9;rw [ae] at h9;simpa using h9
 have hN:Fh s p ts cs=(p,ts,cs,4):=by unfold Fh;rw [h1,h2,h3,h4,h7,h8,h9];rfl
 have ab:=(hs.a g).aq k1 k2 k3 k4;have aa:=Lt g hs.ad;refine Ao (Ay (BO U (Al (kq (DZ (FJ U U ?_))))));rw [hN];exact ⟨rfl,ab,aa⟩;have h9:Ae (Jp 0 ((s.drop p).take (DJ Fx (s.drop p)))<9223372036854775808)=true:=by have h9:(!Pb Hi)=false:=h9;rw [ae] at h9;simpa using h9
 have hN:Fh s p ts cs=(p+DJ Fx (s.drop p),ts++[⟨2,(s.drop p).take (DJ Fx (s.drop p)),p⟩],cs,0):=by unfold Fh;rw [h1,h2,h3,h4,h7,h8,h9];rfl
 refine CU (kq (Ay (As U (As U (AK (SB base b s p ts cs _ _ _ ((hs.a g).aq k1 k2 k3 k4) hn hf) ?_)))));rintro bh bi ⟨rfl,ab,aa⟩;refine ⟨E3,?_⟩;have aa:=(Lt g hs.ad).trans aa;refine Al (kq (Ao (Ay (BO U (Al (kq (DZ (FJ U U ?_))))))));rw [hN];exact ⟨rfl,ab,aa⟩;have h7:Fx (EJ s p)=false:=h7;refine Ao (Ao (Ay (CH Yr U U ((hL.a g).ops) (As U (Al (kq (DY (QP (fun (i:Nat) u=>i≤27∧(∀ j<i,IV (Hn.getD j []) (s.drop p)=false)∧G w u) (fun i=>[(0,True,.pointer (some ⟨b,0,none⟩)),(21,True,.agg (Hn.map Co).toArray),(22,True,.int .i64 i)]) (fun i=>27-i) 0 ⟨O,by intro j hj;omega,g⟩ (K U (K U (K U (Bm _)))) ?_))))))));rintro i u ⟨hi,ah,g⟩;refine Ao (Ay (G2 U U (Al (kq (Ao (CB U (fun ak=>?_) (fun ak=>?_)))))));simp only [BQ] at ak;have ad:i<27:=by omega
 refine CU (kq (Ao (DY (Ao (Ay (AG U (fun _=>XE kD (H U) (H U) (fun _=>O) (fun _=>tY ad)) (BO U (Al (kq (Ao (C9 [3,3,3,0,3,3,3,0,3,3,1] ?_)))))))))));have g:=Ho g;refine As U (Dd U (AF MX U (AL DU U (by first|exact (hs.a g).B.j U) (As U (Dd U (AF H6 U (AL Cd U (by first|exact (hs.a g).B.j U) (AG U (fun _=>dX JR (H U) (H U) (fun _=>O)) (As U (F1 U (BK Xu Cf (CF U (CF U CT)) U) (XT _ _ _) (fun bq a0=>?_)))))))))));have g:=g.trans a0;refine Al (kq (CB U (fun af=>?_) (fun af=>?_)));have af:IV (Hn.getD i []) (s.drop p)=true:=af;have h0:=kO ad ah af;have hn:=sZ i ad;have hf:p+(Hn.getD i []).length≤s.length:=by have:=(xU af).1;rw [Gg] at this;omega
 have hN:Fh s p ts cs=(p+(Hn.getD i []).length,ts++[⟨4,(s.drop p).take (Hn.getD i []).length,p⟩],cs,0):=by
  unfold Fh;rw [h1,h2,h3,h4,h7,h0,show Ap (Hn.getD i []).length 0=false by rw [Bool.eq_false_iff];intro h;have:=FP h;omega];rfl
 refine Ao (Ay (As U (As U (AG U (fun _=>SL JR (H U)) (AK (SB base b s p ts cs _ _ _ ((hs.a g).aq k1 k2 k3 k4) hn hf) ?_)))));rintro b1 br ⟨rfl,ab,aa⟩;refine ⟨E3,?_⟩;have aa:=(Lt g hs.ad).trans aa;refine Al (kq (Ao (Ay (BO U (Al (kq (DZ (FJ U U ?_))))))));rw [hN];exact ⟨rfl,ab,aa⟩;refine CU (kq (Ay (IB U U O (As U (FD [(0,_,_),(21,_,_),(22,_,_)] (K U (K U (K U (Bm _)))) (Al (fun a ha=>?_)))))))
 exact ⟨i+1,ha,⟨O,by
  intro j hj;by_cases e:j=i;rw [e];exact af;exact ah j O,g⟩,O⟩
 simp only [CK] at ak;have ad:i=27:=by omega
 subst ad;have h0:=Aaf ah;have hN:Fh s p ts cs=(p,ts,cs,4):=by unfold Fh;rw [h1,h2,h3,h4,h7,h0];rfl
 have ab:=(hs.a g).aq k1 k2 k3 k4;have aa:=Lt g hs.ad;refine OD U (kq (Ao (Ay (BO U (Al (kq (DZ (FJ U U ?_))))))));rw [hN];exact ⟨rfl,ab,aa⟩
def Kr(s:List UInt8):Nat→Nat→List EA→List EA→Nat×List EA×List EA×Int
 | 0,p,ts,cs=>(p,ts,cs,0)
 | f+1,p,ts,cs=>bif Ae (p<s.length) then bif Ae ((Fh s p ts cs).2.2.2=0) then Kr s f (Fh s p ts cs).1 (Fh s p ts cs).2.1 (Fh s p ts cs).2.2.1 else Fh s p ts cs else (p,ts,cs,0)
def I5(s:List UInt8):Nat×List EA×List EA×Int:=bif Ae ((20000:Int)<s.length) then (0,[],[],3) else Kr s s.length 0 [] []
theorem tX{s:List UInt8}{p:Nat}{ts cs:List EA}(h:p<s.length)(he:(Fh s p ts cs).2.2.2=0):p<(Fh s p ts cs).1:=by
 unfold Fh at he ⊢;cases h1:Ae (EJ s p=10);cases h2:((Ae (EJ s p=32) || Ae (EJ s p=9)) || Ae (EJ s p=13));cases h3:IV [47,47] (s.drop p);cases h4:I2 (EJ s p);cases h7:Fx (EJ s p);cases h8:Ap (MV (s.drop p)) 0;simp only [A8,A0];have:MV (s.drop p)≠0:=by intro h0;rw [h0] at h8;cases h8
 omega;rw [h1,h2,h3,h4,h7,h8] at he;simp at he;have:=OA (q:=Fx) h h7;rw [h1,h2,h3,h4,h7] at he;cases h8:Rw s p (DJ Fx (s.drop p));rw [h8] at he;cases h9:Ae (Jp 0 ((s.drop p).take (DJ Fx (s.drop p)))<9223372036854775808);rw [h9] at he;simp at he;simp only [A8,A0];omega;rw [h8] at he;simp at he;have:=OA (q:=G1) h (by rw [G1,h4];rfl);rw [h1,h2,h3,h4] at he;cases h5:Ae ((32:Int)<DJ G1 (s.drop p));simp only [A8,A0];omega;rw [h5] at he;simp at he;have:=OA (q:=Ld) h (by rw [Ld,h1];rfl);simp only [A8,A0];omega;simp only [A8,A0];omega;simp only [A8,A0];omega
theorem sO(s:List UInt8)(w:Ad)(hL:Laid w)(ab:10≤w.heap.size) :
 Bx Aj 143 #[Co s] w fun v w'=>∃ b ta tc ca cc,v = .tuple #[.pointer (some ⟨b,0,none⟩),.int .i64 (I5 s).2.2.2]∧Jn w.heap.size b s (I5 s).1 (I5 s).2.1 (I5 s).2.2.1 ta tc ca cc w'∧G w w':=by
 have g:=G.refl w;refine Cj 27 [0] Tryz.func143 ?_;refine CN fun b8 w8 _ l8 g E=>?_;refine Az (fun h1=>?_) fun h1=>?_;have hN:I5 s=(0,[],[],3):=by unfold I5;rw [h1];rfl
 refine AC ?_;rw [hN];exact ⟨b8,none,0,none,0,rfl,⟨E.E,l8,JX _ _ _ _,JX _ _ _ _,(by intro h;cases h),(by intro h;cases h),(by intro k h;cases h)⟩,g⟩;have hN:I5 s=Kr s s.length 0 [] []:=by unfold I5;rw [h1];rfl
 simp only [CK] at h1;refine CU (kq (Ao (DY (?_))))
 refine QP (fun (x:Nat×List EA×List EA×Nat) u=>KY w.heap.size b8 s x.1 x.2.1 x.2.2.1 u∧s.length-x.1≤x.2.2.2∧Kr s x.2.2.2 x.1 x.2.1 x.2.2.1=Kr s s.length 0 [] []∧G w u) (fun _=>[(0,True,Co s),(4,True,.pointer (some ⟨b8,0,none⟩))]) (fun x=>s.length-x.1) (0,[],[],s.length)
  ⟨(show Jn w.heap.size b8 s 0 [] [] none 0 none 0 w8 from ⟨E.E,l8,JX _ _ _ _,JX _ _ _ _,(by intro h;cases h),(by intro h;cases h),(by intro k h;cases h)⟩).aq (DV _) (DV _) (DV _) O,Nat.sub_le _ _,rfl,g⟩ (K rfl (K rfl (Bm _))) ?_
 rintro ⟨p,ts,cs,f⟩ u ⟨hs,hf,he,g⟩;simp only at hs hf he;obtain ⟨ta,tc,ca,cc,hA,k1,k2,k3,k4⟩:=hs.sa;refine Ao (Ao (Ay (As U (Dd U (AF H6 U (AL Cd U (hA.B.j U) (As U (AG U (fun _=>SL JR (H U)) (G2 U U (Al (kq (CB U (fun h2=>?_) (fun h2=>?_)))))))))))));have h2:p<s.length:=by simp only [BQ] at h2;omega
 obtain ⟨f',rfl⟩:∃ f',f=f'+1:=⟨f-1,O⟩;rw [Kr,BW h2,A8] at he;refine R ?_;refine AK (pH _ _ ab s p ts cs _ (hL.a g) hs h2) ?_;rintro ae ad ⟨rfl,aa,ac⟩;refine ⟨E3,?_⟩;have g:G w ad:=Below.trans g ac;refine Az (fun h3=>?_) fun h3=>?_;have h3:Ae ((Fh s p ts cs).2.2.2=0)=false:=by simpa using h3
 rw [h3,A0] at he;refine AC ?_;rw [hN,← he];obtain ⟨ta,tc,ca,cc,hA,_⟩:=aa.sa;exact ⟨b8,ta,tc,ca,cc,rfl,hA,g⟩;have h3:(Fh s p ts cs).2.2.2=0:=by simpa using h3
 have af:=tX h2 h3;rw [BW h3,A8] at he;refine VW [0,4] ?_;refine CU (fun a ha=>?_);exact ⟨(_,_,_,f'),ha,⟨aa,by show s.length-(Fh s p ts cs).1≤f';omega,he,g⟩,by show s.length-(Fh s p ts cs).1<s.length-p;omega⟩;have hp:p=s.length:=by simp only [CK] at h2;omega
 have he:(p,ts,cs,(0:Int))=Kr s s.length 0 [] []:=by
  rw [← he]
  cases f with
  | zero=>rfl
  | succ f'=>rw [Kr,Aq (by omega:¬ p<s.length)];rfl
 refine AC ?_;rw [hN,← he];exact ⟨b8,ta,tc,ca,cc,rfl,hA,g⟩
def Jw(s:List UInt8):List EA×Nat×Int:=bif !Ae ((I5 s).2.2.2=0) then ([],(I5 s).1,(I5 s).2.2.2) else ((I5 s).2.1,0,0)
def dK(base:Nat)(l:List EA)(v:Ak)(w:Ad):Prop:=w.ownsRow base 115 3 v l.length (Kt l)
theorem cW(s:List UInt8)(w:Ad)(hL:Laid w)(aa:10≤w.heap.size) :
 Bx Aj 129 #[Co s] w fun v w'=>∃ l,v = .tuple #[l,.int .i64 (Jw s).2.1,.int .i64 (Jw s).2.2]∧dK w.heap.size (Jw s).1 l w'∧G w w':=by
 have g:=G.refl w;refine Cj 23 [0] Tryz.func129 ?_;refine R ?_;refine AK (sO s _ (hL.a g) aa) ?_;rintro v9 w9 ⟨b,ta,tc,ca,cc,rfl,hA,g9⟩;refine ER g9 fun g=>?_;refine Az (fun h1=>?_) fun h1=>?_;(try simp only [BJ] at h1);refine Ao (C9 [3,3,3,0,3,3,3,3] ?_);have g:=Ho g;have gh:=G.drew w9;refine As U (Dd U (AF H6 U (AL Cd U (by first|exact (hA.a gh).B.j U) (As U (BO U (BO U (BO U (Al (kq (DZ (PU (ts:=[2,3,4]) (vs:=[_,_,_]) U U U ?_)))))))))));refine ⟨.slice none 0 0,?_,?_,g⟩;rw [Jw,show (!Ae ((I5 s).2.2.2=0))=true from h1];rfl;rw [Jw,show (!Ae ((I5 s).2.2.2=0))=true from h1];exact JX _ _ _ _;have gh:=G.refl w9;refine CU (kq (Ao (Ay (As U (Dd U (AF PS U (AL O1 U (by first|exact (hA.a gh).B.j U) (BO U (BO U (BO U (Al (kq (DZ (PU (ts:=[2,3,4]) (vs:=[_,_,_]) U U U ?_))))))))))))));refine ⟨.slice ta (I5 s).2.1.length tc,?_,?_,g⟩;rw [Jw,show (!Ae ((I5 s).2.2.2=0))=false from h1];rfl;rw [Jw,show (!Ae ((I5 s).2.2.2=0))=false from h1];exact hA.ht
structure Bu where
  c:Int
  name:List UInt8
inductive Nd where
  | mk (kind:Int) (text:List UInt8) (num pos:Int) (kids:List Nd) (ty:Bu) (ref up:Int)
namespace Nd
def c:Nd→Int | .mk k _ _ _ _ _ _ _=>k
def i:Nd→List UInt8 | .mk _ x _ _ _ _ _ _=>x
def num:Nd→Int | .mk _ _ n _ _ _ _ _=>n
def m:Nd→Int | .mk _ _ _ a _ _ _ _=>a
def b:Nd→List Nd | .mk _ _ _ _ ks _ _ _=>ks
def ty:Nd→Bu | .mk _ _ _ _ _ y _ _=>y
def ref:Nd→Int | .mk _ _ _ _ _ _ r _=>r
def up:Nd→Int | .mk _ _ _ _ _ _ _ u=>u
end Nd
def AA:Bu:=⟨0,[]⟩
def EN:Nd:=.mk 0 [] 0 0 [] AA 0 0
def Ea(y:Bu):List Ak:=[.int .i64 y.c,Co y.name]
def Cs(t:Nd)(v:Ak):List Ak:=[.int .i64 t.c,Co t.i,.int .i64 t.num,.int .i64 t.m,v,.int .i64 t.ty.c,Co t.ty.name,.int .i64 t.ref,.int .i64 t.up]
@[reducible] def D3(y:Bu):Ak:=.agg (Ea y).toArray
@[reducible] def BV(t:Nd)(v:Ak):Ak:=.agg (Cs t v).toArray
theorem QB(t:Nd)(v:Ak):(Cs t v).length=9:=rfl
mutual
theorem Nd.bb{C:Nd→Prop}(h:∀ t,(∀ k∈t.b,C k)→C t):∀ t,C t
 | .mk k x n a ks y r u=>h _ (Nd.bg h ks)
theorem Nd.bg{C:Nd→Prop}(h:∀ t,(∀ k∈t.b,C k)→C t):∀ (l:List Nd),∀ k∈l,C k
 | []=>fun _ hk=>by cases hk
 | t::ts=>Ih.2 ⟨Nd.bb h t,Nd.bg h ts⟩
end
theorem Nd.ao{C:Nd→Prop}(h:∀ t,(∀ k∈t.b,C k)→C t)(t:Nd):C t:=Nd.bb h t
section
variable {α:Type}
mutual
def Iq(f:Nd→List α→α):Nd→α
 | .mk k x n a ks y r u=>f (.mk k x n a ks y r u) (SR f ks)
def SR(f:Nd→List α→α):List Nd→List α
 | []=>[]
 | t::ts=>Iq f t::SR f ts
end
theorem tT(f:Nd→List α→α)(l:List Nd):SR f l=l.map (Iq f):=by
 induction l with
 | nil=>rfl
 | cons t ts ih=>rw [SR,ih];rfl
theorem Lh(f:Nd→List α→α)(t:Nd):Iq f t=f t (t.b.map (Iq f)):=by
 cases t with
 | mk k x n a ks y r u=>rw [Iq,tT];rfl
end
mutual
def D8(w:Ad)(D:Nat→Prop):List Nd→List Ak→Prop
 | [],xs=>xs=[]
 | t::ts,xs=>∃ v r,xs=Cs t v++r∧Oi w D t v∧D8 w D ts r
def Oi(w:Ad)(D:Nat→Prop):Nd→Ak→Prop
 | .mk _ _ _ _ ks _ _ _,v=>∃ p c,v = .slice p ks.length c∧ks.length≤c∧(0<ks.length→∃ b o,p=some ⟨b,o,none⟩∧D b∧∃ xs,Cv w b o xs∧D8 w D ks xs)
end
def Bo(w:Ad)(D:Nat→Prop)(ks:List Nd)(v:Ak):Prop :=
 ∃ p c,v = .slice p ks.length c∧ks.length≤c∧(0<ks.length→∃ b o,p=some ⟨b,o,none⟩∧D b∧∃ xs,Cv w b o xs∧D8 w D ks xs)
theorem NX(w:Ad)(D:Nat→Prop)(t:Nd)(v:Ak):Oi w D t v=Bo w D t.b v:=by
 cases t;rw [Oi];rfl
theorem NK{w:Ad}{D:Nat→Prop}:D8 w D [] []:=rfl
theorem F2{w:Ad}{D:Nat→Prop}{t:Nd}{ts:List Nd}{v:Ak}{r:List Ak}(h:Bo w D t.b v)(k:D8 w D ts r):D8 w D (t::ts) (Cs t v++r) :=
 ⟨v,r,rfl,(NX ..).symm▸h,k⟩
theorem Nq{w:Ad}{D:Nat→Prop}:∀ {ks:List Nd} {xs:List Ak},D8 w D ks xs→xs.length=ks.length*9
 | [],xs,h=>by rw [show xs=[] from h];rfl
 | t::ts,xs,h=>by
  obtain ⟨v,r,rfl,_,h⟩:=h;rw [DF,QB,Nq h,FB];omega
theorem Rf{w:Ad}{D:Nat→Prop}:∀ {ks ls:List Nd} {xs ys:List Ak},D8 w D ks xs→D8 w D ls ys→D8 w D (ks++ls) (xs++ys)
 | [],ls,xs,ys,h,k=>by rw [show xs=[] from h];exact k
 | t::ts,ls,xs,ys,h,k=>by
  obtain ⟨v,r,rfl,h1,h⟩:=h;exact ⟨v,r++ys,by rw [List.append_assoc],h1,Rf h k⟩
theorem Dh{w:Ad}{D:Nat→Prop}{t:Nd}{v:Ak}(h:Bo w D t.b v):D8 w D [t] (Cs t v):=by
 have:=F2 h (NK (w:=w) (D:=D));rwa [List.append_nil] at this
theorem UJ{w:Ad}{D:Nat→Prop}:∀ {ks:List Nd} {xs:List Ak} (_:D8 w D ks xs) {i:Nat} (hi:i<ks.length),∃ v,(xs.drop (i*9)).take 9=Cs ks[i] v∧Bo w D ks[i].b v
 | [],xs,h,i,hi=>by cases hi
 | t::ts,xs,h,i,hi=>by
  obtain ⟨v,r,rfl,h1,h⟩:=h
  cases i with
  | zero=>exact ⟨v,by simp [Cs],NX w D t v▸h1⟩
  | succ i =>
   have aa:i<ts.length:=by simpa using hi
   obtain ⟨v',e,k⟩:=UJ h aa;refine ⟨v',?_,k⟩
   have e9:(Cs t v++r).drop ((i+1)*9)=r.drop (i*9):=by
    rw [show (i+1)*9=9+i*9 by omega,← List.drop_drop];rfl
   rw [e9];exact e
mutual
theorem Lx{w w':Ad}{D D':Nat→Prop}(hD:∀ b,D b→b<w.heap.size→D' b)(hf:∀ b,D b→b<w.heap.size→w'.heap[b]? = w.heap[b]?):∀ (ks:List Nd) (xs:List Ak),D8 w D ks xs→D8 w' D' ks xs
 | [],xs,h=>h
 | t::ts,xs,h=>by
  obtain ⟨v,r,rfl,h1,h⟩:=h;exact ⟨v,r,rfl,cS hD hf t v h1,Lx hD hf ts r h⟩
theorem cS{w w':Ad}{D D':Nat→Prop}(hD:∀ b,D b→b<w.heap.size→D' b)(hf:∀ b,D b→b<w.heap.size→w'.heap[b]? = w.heap[b]?):∀ (t:Nd) (v:Ak),Oi w D t v→Oi w' D' t v
 | .mk k x n a ks y r u,v,h=>by
  obtain ⟨p,c,rfl,hc,h⟩:=h;refine ⟨p,c,rfl,hc,fun h0=>?_⟩;obtain ⟨b,o,rfl,hb,xs,hR,hX⟩:=h h0;have hl:xs.length=ks.length*9:=Nq hX;have ab:∃ u,xs[0]? = some u:=⟨xs[0]'O,by simp⟩;obtain ⟨u0,ad⟩:=ab;have aa:b<w.heap.size:=World.block_lt_of_cell? w _ (hR 0 u0 ad);have ac:=hf b hb aa;refine ⟨b,o,rfl,hD b hb aa,xs,fun j u hj=>?_,Lx hD hf ks xs hX⟩;have:=hR j u hj;unfold World.cell? at this ⊢;simp only [ac];exact this
end
theorem He{w w':Ad}{D D':Nat→Prop}{ks:List Nd}{v:Ak}(h:Bo w D ks v)(hD:∀ b,D b→b<w.heap.size→D' b)(hf:∀ b,D b→b<w.heap.size→w'.heap[b]? = w.heap[b]?):Bo w' D' ks v:=by
 have:=cS hD hf (.mk 0 [] 0 0 ks AA 0 0) v ((NX w D _ v).symm▸h);rw [NX] at this;exact this
theorem Bo.mono{w:Ad}{D D':Nat→Prop}{ks:List Nd}{v:Ak}(h:Bo w D ks v)(hD:∀ b,D b→b<w.heap.size→D' b):Bo w D' ks v:=He h hD fun _ _ _=>rfl
theorem D8.mono{w:Ad}{D D':Nat→Prop}{ks:List Nd}{xs:List Ak}(h:D8 w D ks xs)(hD:∀ b,D b→b<w.heap.size→D' b):D8 w D' ks xs:=Lx hD (fun _ _ _=>rfl) _ _ h
theorem Bo.a{w w':Ad}{D:Nat→Prop}{ks:List Nd}{v:Ak}(h:Bo w D ks v)(g:G w w'):Bo w' D ks v:=He h (fun _ h _=>h) fun _ _ hb=>g.block hb
theorem D8.a{w w':Ad}{D:Nat→Prop}{ks:List Nd}{xs:List Ak}(h:D8 w D ks xs)(g:G w w'):D8 w' D ks xs:=Lx (fun _ h _=>h) (fun _ _ hb=>g.block hb) _ _ h
theorem Bo.A{w w':Ad}{D:Nat→Prop}{ks:List Nd}{v:Ak}{row:Option Nat}(h:Bo w D ks v)(hg:w.grownBy w' row)(ab:∀ b,D b→b<w.heap.size→some b≠row):Bo w' D ks v:=He h (fun _ h _=>h) fun b hb aa=>hg.block b aa (ab b hb aa)
theorem D8.A{w w':Ad}{D:Nat→Prop}{ks:List Nd}{xs:List Ak}{row:Option Nat}(h:D8 w D ks xs)(hg:w.grownBy w' row)(ab:∀ b,D b→b<w.heap.size→some b≠row):D8 w' D ks xs:=Lx (fun _ h _=>h) (fun b hb aa=>hg.block b aa (ab b hb aa)) _ _ h
theorem Bo.lt{w:Ad}{D:Nat→Prop}{ks:List Nd}{v:Ak}(h:Bo w D ks v):Bo w (fun b=>D b∧b<w.heap.size) ks v:=He h (fun _ h hl=>⟨h,hl⟩) fun _ _ _=>rfl
theorem D8.lt{w:Ad}{D:Nat→Prop}{ks:List Nd}{xs:List Ak}(h:D8 w D ks xs):D8 w (fun b=>D b∧b<w.heap.size) ks xs:=Lx (fun _ h hl=>⟨h,hl⟩) (fun _ _ _=>rfl) _ _ h
theorem Me(w:Ad)(D:Nat→Prop):Bo w D [] (.slice none 0 0):=⟨none,0,rfl,BM _,fun h=>absurd h (Nat.lt_irrefl 0)⟩
theorem gV{w:Ad}{base:Nat}{e:Aw}{v:Ak}{m:Nat}{xs:List Ak}{D:Nat→Prop}{ks:List Nd}(h:w.ownsRow base e 9 v m xs)(hm:m=ks.length)(k:D8 w D ks xs)(hD:∀ b,v.ownBlock=some b→D b):Bo w D ks v:=by
 subst hm;obtain ⟨a,c,rfl,hc⟩:=Im h;refine ⟨a,c,rfl,hc,fun h0=>?_⟩;obtain ⟨b,c',hv,_,hR,_⟩:=Ly h h0;injection hv with hv _ _;subst hv;exact ⟨b,0,rfl,hD b rfl,xs,hR,k⟩
theorem D9{w:Ad}{D:Nat→Prop}{ks:List Nd}{b o c:Nat}{xs:List Ak}(hb:D b)(hR:Cv w b o xs)(hX:D8 w D ks xs)(hc:ks.length≤c):Bo w D ks (.slice (some ⟨b,o,none⟩) ks.length c):=⟨_,c,rfl,hc,fun _=>⟨b,o,rfl,hb,xs,hR,hX⟩⟩
theorem I9{w:Ad}{D:Nat→Prop}{ks:List Nd}{b o:Nat}{xs:List Ak}(hR:Cv w b o xs)(hX:D8 w D ks xs){i:Nat}(hi:i<ks.length):∃ p c,Cv w b (o+i*9) (Cs ks[i] (.slice p ks[i].b.length c))∧Bo w D ks[i].b (.slice p ks[i].b.length c):=by
 obtain ⟨v,e,k⟩:=UJ hX hi;have:=hR.part (i*9) 9;rw [e] at this;obtain ⟨p,c,rfl,k1⟩:=k;exact ⟨p,c,this,p,c,rfl,k1⟩
def count(t:Nd):Nat:=Iq (fun _ l=>1+l.sum) t
theorem Iy(t:Nd):count t=1+(t.b.map count).sum:=Lh _ t
theorem VR(l:List Nat)(i:Nat):(l.take i).sum≤l.sum:=by
 conv=>rhs;rw [← List.take_append_drop i l,Ic]
 omega
theorem J5{t:Nd}{i:Nat}(h:i<t.b.length):((t.b.take i).map count).sum+count t.b[i]+1≤count t:=by
 rw [Iy t];have:=VR (t.b.map count) (i+1);rw [← List.map_take,Ik,Bh h] at this;simp only [Option.toList_some,List.map_append,List.map_cons,List.map_nil,Ic,List.sum_cons,List.sum_nil] at this;omega
theorem JJ(t:Nd):1≤count t:=by rw [Iy];omega
theorem Xp:∀ (l:List Nd),l.length≤(l.map count).sum
 | []=>BM _
 | t::ts=>by have:=Xp ts;have:=JJ t;simp;omega
theorem Ej(t:Nd):t.b.length+1≤count t:=by
 have:=Xp t.b;rw [Iy];omega
theorem Mt{t k:Nd}(h:k∈t.b):count k+1≤count t:=by
 obtain ⟨i,hi,rfl⟩:=Gx h;have:=J5 hi;omega
theorem WV{α β:Type}(f:α→β)(l:List α)(i:Nat)(h:i<l.length):(l.take (i+1)).map f=(l.take i).map f++[f l[i]]:=by
 rw [Ik,Bh h,List.map_append];rfl
theorem cD(c:Int)(w:Ad):Bx Aj 75 #[.int .u8 c] w fun v w'=>v = .bool (I2 c)∧G w w':=by
 have g:=G.refl w;refine Cj 21 [0] Tryz.func75 ?_;refine AC ?_;exact ⟨rfl,g⟩
theorem wN(c:Int)(w:Ad):Bx Aj 77 #[.int .u8 c] w fun v w'=>v = .bool (Fx c)∧G w w':=by
 have g:=G.refl w;refine Cj 9 [0] Tryz.func77 ?_;refine AC ?_;exact ⟨rfl,g⟩
def OJ(c:UInt8):Bool:=I2 c.toNat || Fx c.toNat
def FE(s:List UInt8):Bool:=!(((Ae (s=[]) || Ae ((32:Int)<s.length)) || !I2 (EJ s 0)) || Jd Kv s)&&(s.drop 1).all OJ
theorem Yb{s:List UInt8}{i:Nat}(h:i<s.length):EJ s i=(s[i].toNat:Int):=by simp [EJ,CW,Bh h]
theorem M2(s:List UInt8)(w:Ad):Bx Aj 57 #[Co s] w fun v w'=>v = .bool (FE s)∧G w w':=by
   have g:=G.refl w
   refine Cj 39 [0] Tryz.func57 ?_
   refine R ?_
   refine AD U U U (fun _=>OB JR (Am U id) Bl (fun hc=>by
 have h1:=hc.2;simp only [EG,CK] at h1
 have:s.length≠0:=fun h=>h1.1 (Ke.1 h)
 omega)) (E9 rfl rfl rfl (fun _=>(BK Xj Cf (Cu (Am rfl id) (CY)) rfl)) (fun hc=>cD _ _) (fun al af=>?_))
   have g:=g.trans af
   refine R ?_
   refine F4 (fun hc=>rL _ _) (fun ag ah=>?_)
   have g:=g.trans ah
   refine Az (fun h1=>?_) fun h1=>?_
   · (try simp only [BJ] at h1)
     refine Cw ?_
     unfold FE;rw [show (((Ae (s=[]) || Ae ((32:Int)<s.length)) || !I2 (EJ s 0)) || Jd Kv s)=true from h1];rfl
   have hn:FE s=(s.drop 1).all OJ:=by unfold FE;rw [show (((Ae (s=[]) || Ae ((32:Int)<s.length)) || !I2 (EJ s 0)) || Jd Kv s)=false from h1];rfl
   have ai:s.length≤32:=by
     simp only [EG,CK] at h1;omega
   refine R ?_
   refine GZ (fun (i:Nat) u1=>(1≤i∧∀ j,1≤j→(h:j<s.length)→j<i→OJ s[j]=true)∧G ag u1) [(0,True,_)] (fun (i:Nat)=>[(3,True,.int .i64 i)]) (fun (i:Nat)=>s.length-i) (1) ⟨⟨O,fun j h1 _ h2=>by omega⟩,G.refl _⟩ (K U (K U (Bm _))) ?_
   rintro i u1 ⟨ae,aa⟩
   have g:=g.trans aa
   refine Az (fun h2=>?_) fun h2=>?_
   · have h2:i<s.length:=by simp only [BQ] at h2;omega
     refine CU (kq (Ao (DY (Ao (Ay (As U (As U (AG U (fun _=>OB JR (H U) (H U) (fun _=>O)) (F1 U (BK Xj Cf (CF U CT) U) (cD _ _) (fun ak ac=>?_))))))))))
     have g:=g.trans ac
     have aa:=aa.trans (ac)
     refine TV U (As U (AD U U U (fun _=>A9 (H U)) (AD U U U (fun _=>A9 (H U)) (AD U U U (fun _=>OB JR (Am U id) (Am U id) (fun hc=>O)) (E9 U U U (fun _=>(BK oY Cf (Cu (Am U id) (CY)) U)) (fun hc=>wN _ _) (fun aj ad=>?_))))))
     have g:=g.trans ad
     have aa:=aa.trans (ad)
     refine Az (fun h3=>?_) fun h3=>?_
     · have ab:OJ s[i]=false:=by
         rw [OJ,← Yb h2];simpa [EJ] using h3
       refine Cw ?_
       rw [hn,eq_comm,List.all_eq_false]
       exact ⟨s[i],LD.2 ⟨i-1,O,by congr 1;omega⟩,by rw [ab];simp⟩
     have ab:OJ s[i]=true:=by
       rw [OJ,← Yb h2]
       cases ha:I2 (EJ s i)
       · cases hb:Fx (EJ s i)
         · exfalso
           have h3:(!I2 (EJ s i) && !Fx (EJ s i))=false:=h3
           rw [ha,hb] at h3;cases h3
         · rfl
       · rfl
     refine R ?_
     refine BL [3,0] ?_
     refine Al (fun a ha=>?_)
     refine ⟨i+1,ha,⟨⟨O,fun j h4 h5 h6=>?_⟩,aa⟩,O⟩
     by_cases e:j=i
     · subst e;exact ab
     · exact ae.2 j h4 h5 O
   have h2:s.length≤i:=by simp only [CK] at h2;omega
   refine Cw ?_
   rw [hn,eq_comm,Fy]
   intro x hx
   obtain ⟨j,hj,rfl⟩:=LD.1 hx
   exact ae.2 _ O O O
theorem Aak{c:Int}(h:I2 c=true):Ae (c=10)=false∧((Ae (c=32) || Ae (c=9)) || Ae (c=13))=false∧Ae (c=47)=false:=by
 simp only [I2,Gz,Dv,BQ] at h;simp only [EG,CK];omega
theorem XY{q:Int→Bool}:∀ {l:List UInt8},(∀ c∈l,q c.toNat=true)→DJ q l=l.length
 | [],_=>rfl
 | c::l,h=>by
  rw [DJ,CP (h c (F9 ..)),XY fun x hx=>h x (I4 _ hx)];rfl
theorem tQ{s:List UInt8}(h:FE s=true):s.length≠0∧s.length≤32∧I2 (EJ s 0)=true∧Jd Kv s=false∧DJ G1 s=s.length:=by
 unfold FE at h;simp only [Dv,Bool.not_eq_true',EG,CK,Bool.not_eq_false'] at h;obtain ⟨⟨⟨⟨h1,h2⟩,h3⟩,h4⟩,h5⟩:=h;refine ⟨fun e=>h1 (Ke.1 e),O,h3,h4,XY fun c hc=>?_⟩
 cases s with
 | nil=>cases hc
 | cons a l =>
  rcases List.mem_cons.1 hc with rfl|hc;have:I2 (c.toNat:Int)=true:=h3;rw [G1,this];rfl;exact Fy.1 h5 c hc
theorem zY{l:List UInt8}(h:Ae (EJ l 0=47)=false):IV [47,47] l=false:=by
 cases l with
 | nil=>rfl
 | cons a l =>
  have:¬ (a.toNat:Int)=47:=CM h;unfold IV;rw [It];right;rw [CK];intro e;rw [FB,Jm] at e;injection e with e1 _;subst e1;exact this rfl
theorem oR{s:List UInt8}(h:FE s=true):Jw s=([⟨1,s,0⟩],0,0):=by
 obtain ⟨h0,h1,h2,h3,h4⟩:=tQ h;obtain ⟨a1,a2,a3⟩:=Aak h2
 have hN:Fh s 0 [] []=(s.length,[⟨1,s,0⟩],[],0):=by
  unfold Fh;rw [a1,a2,show s.drop 0=s from rfl,zY a3,h2,h4,Aq (by omega:¬ (32:Int)<(s.length:Nat)),Lz (BM _),Rv,h3];simp
 have hG:Kr s s.length 0 [] []=(s.length,[⟨1,s,0⟩],[],0):=by
  obtain ⟨m,hm⟩:∃ m,s.length=m+1:=⟨s.length-1,O⟩;rw [hm,Kr,BW (by omega:0<s.length),hN];simp only [A8,decide_true]
  cases m with
  | zero=>rw [Kr,hm]
  | succ m=>rw [Kr,Aq O,A0,hm]
 rw [Jw,I5,Aq (by omega:¬ (20000:Int)<s.length),A0,hG];rfl
def M6(t:EA):Prop:=t.c=1→FE t.i=true
theorem wL{s:List UInt8}{p:Nat}{ts:List EA}(cs:List EA)(hp:p<s.length)(h:∀ t∈ts,M6 t):∀ t∈(Fh s p ts cs).2.1,M6 t:=by
 have hn:∀ (l:List EA) (t:EA),(∀ t∈l,M6 t)→M6 t→∀ u∈l++[t],M6 u:=by
  intro l t hl ht u hu;rcases List.mem_append.1 hu with hu|hu;exact hl u hu;rw [List.mem_singleton.1 hu];exact ht
 unfold Fh;cases h1:Ae (EJ s p=10);cases h2:((Ae (EJ s p=32) || Ae (EJ s p=9)) || Ae (EJ s p=13));cases h3:IV [47,47] (s.drop p);cases h4:I2 (EJ s p);cases h7:Fx (EJ s p);cases h8:Ap (MV (s.drop p)) 0;exact hn _ _ h (fun e=>by simp at e);exact h;cases h8:Rw s p (DJ Fx (s.drop p));cases h9:Ae (Jp 0 ((s.drop p).take (DJ Fx (s.drop p)))<9223372036854775808);exact h;exact hn _ _ h (fun e=>by simp at e);exact h;cases h5:Ae ((32:Int)<DJ G1 (s.drop p));refine hn _ _ h (fun e=>?_);simp only at e ⊢;have hq:G1 (EJ s p)=true:=by rw [G1,h4];rfl
 have ab:=OA hp hq;have ac:=S8 G1 hp;have aa:=U4 G1 (s.drop p);generalize hX:(s.drop p).take (DJ G1 (s.drop p))=x at e aa ⊢;have hl:x.length=DJ G1 (s.drop p):=by rw [← hX,E1,Gg];omega
 have hk:Jd Kv x=false:=by
  cases hk:Jd Kv x;rfl;rw [Rv,hk] at e;cases e
 have hc:EJ x 0=EJ s p:=by
  rw [← hX];unfold EJ;simp [CW,HA,show 0<DJ G1 (s.drop p) from ab]
 have ad:=CM h5;unfold FE;rw [Aq (by omega:¬ (32:Int)<(x.length:Nat)),hc,h4,hk,Aq (by intro e0;rw [e0] at hl;simp at hl;omega)];simp only [Cl,Dg,Cr,HZ];rw [Fy];intro c hc;exact aa c (List.mem_of_mem_drop hc);exact h;exact h;exact h;show ∀ t∈Lu p ts,M6 t;intro t ht
 have:Lu p ts=ts∨∃ q,Lu p ts=ts++[⟨4,[59],q⟩]:=by
  unfold Lu
  cases ts.getLast? with
  | none=>exact .inl rfl
  | some u=>simp only [];split <;> first|exact .inl rfl|exact .inr ⟨_,rfl⟩
 rcases this with e|⟨q,e⟩;rw [e] at ht;exact h t ht;rw [e] at ht;exact hn _ _ h (fun e=>by simp at e) t ht
theorem W4(s:List UInt8):∀ (f p:Nat) (ts cs:List EA),(∀ t∈ts,M6 t)→∀ t∈(Kr s f p ts cs).2.1,M6 t
 | 0,_,_,_,h=>h
 | f+1,p,ts,cs,h=>by
  rw [Kr];cases hp:Ae (p<s.length);exact h;have hn:=wL (ts:=ts) cs (AV hp) h;cases Ae ((Fh s p ts cs).2.2.2=0);exact hn;exact W4 s f _ _ _ hn
theorem jM(s:List UInt8):∀ t∈(Jw s).1,M6 t:=by
 rw [Jw,I5];cases Ae ((20000:Int)<s.length);simp only [A0];have:=W4 s s.length 0 [] [] (fun t ht=>by cases ht);cases (!Ae ((Kr s s.length 0 [] []).2.2.2=0));exact this;exact fun t ht=>by cases ht
 exact fun t ht=>by cases ht
def Pw(l:List EA):EA:=l.getD 0 ⟨0,[],0⟩
def WA(s:List UInt8):Bool:=((Ae ((Jw s).2.2=0)&&Ae (((Jw s).1.length:Int)=1))&&Ae ((Pw (Jw s).1).c=1))&&Ae ((Pw (Jw s).1).i=s)
theorem Yp(s:List UInt8):WA s=FE s:=by
 cases h:FE s;rw [WA,Bool.eq_false_iff];intro hp;simp only [Dv,BQ] at hp;obtain ⟨⟨⟨_,h2⟩,h3⟩,h4⟩:=hp
 have hm:Pw (Jw s).1∈(Jw s).1:=by
  cases hl:(Jw s).1 with
  | nil=>rw [hl] at h2;simp at h2
  | cons a l=>exact F9 ..
 have:=jM s _ hm h3;rw [h4,h] at this;cases this;rw [WA,oR h];simp [Pw]
def E5(p:Option Addr):Nat:=match p with|some a=>a.block|none=>0
def Gq(p:Option Addr):Nat:=match p with|some a=>a.off|none=>0
def Ct:List Int→Int→Bool
 | [],_=>false
 | [a],k=>Ae (k=a)
 | a::b::l,k=>Ae (k=a) || Ct (b::l) k
def Er:List (List UInt8)→List UInt8→Bool
 | [],_=>false
 | [a],k=>Ae (k=a)
 | a::b::l,k=>Ae (k=a) || Er (b::l) k
theorem QZ:∀ (l:List Int) (k:Int),Ct l k=true↔k∈l
 | [],k=>by simp [Ct]
 | [a],k=>by simp [Ct]
 | a::b::l,k=>by rw [Ct,Gz,QZ (b::l) k,BQ,List.mem_cons (a:=k) (b:=a)]
theorem KX:∀ (l:List (List UInt8)) (k:List UInt8),Er l k=true↔k∈l
 | [],k=>by simp [Er]
 | [a],k=>by simp [Er]
 | a::b::l,k=>by rw [Er,Gz,KX (b::l) k,BQ,List.mem_cons (a:=k) (b:=a)]
theorem kZ{w:Ad}{b o:Nat}{l:List EA}(h:Cv w b o (Kt l))(hl:0<l.length):Cv w b o (Nz (Pw l)):=by
 cases l with
 | nil=>cases hl
 | cons t l =>
  have:=h.part 0 3;exact this
theorem CS{P:BH}{n:Nat}{σ:List Ce}{c:Prop}{wb:Ad}{ty:Aw}{t e z aa:Nat}{x y:A7}{p:Option Addr}{m q:Nat}{k:IntKind}{i:Int}(ht:FQ P t=some (e,z,aa))(h:Bz n σ c x (.slice p m q))(h':Bz n σ c y (.int k i))(hi:c→0≤i∧i<m)(hp:c→p=some ⟨E5 p,Gq p,none⟩) :
  DB P n σ c wb (.indexAddr t x y) ty (.pointer (some ⟨E5 p,Gq p+i.toNat*z,none⟩)):=.mk fun d pos after gd a ha hc w1 hg =>
 JH (P:=P) (wb:=wb) ht (Bz.to h fun hc=>congrArg (fun p=>Ez p m q) (hp hc)) h' hi d pos after gd a ha hc w1 hg
theorem Dn{P:BH}{Z:List Bd→Act→Ad→Prop}{ops:List Oper}{cl:List Nat}{lv:List Bool}{W0:Ad}{n:Nat}{H':Act→Ad→Prop}{k:Nat}{rest:List Oper}{σ:List Ce}{w:Ad}{d:Nat}{ty:Aw}{pos:String}{after:Array Edge}{x y:A7}{t e z aa:Nat}{p:Option Addr}{m q:Nat}{g:IntKind}{i:Int}(ht:FQ P t=some (e,z,aa))(hx:FG σ x=some (True,.slice p m q))(hy:FG σ y=some (True,.int g i))(hi:0≤i∧i<m)(hp:p=some ⟨E5 p,Gq p,none⟩)
  (h:Bv P Z ops cl lv W0 n H' (k+1) rest ((d,True,.pointer (some ⟨E5 p,Gq p+i.toNat*z,none⟩)) :: σ) w) (hb:(Ap (Bw cl k) 3&&CQ d n)=true:=by exact rfl):Bv P Z ops cl lv W0 n H' k (⟨some d,.indexAddr t x y,ty,pos,after,none⟩::rest) σ w:=AG hb (fun _=>CS ht (FT hx) (FT hy) (fun _=>hi) fun _=>hp) h
theorem ZS{base:Nat}{l:List EA}{v:Ak}{w:Ad}(h:dK base l v w):∃ a c,v = .slice a l.length c∧(0<l.length→a=some ⟨E5 a,Gq a,none⟩∧Cv w (E5 a) (Gq a) (Nz (Pw l))):=by
 obtain ⟨a,c,rfl,_⟩:=Im h;refine ⟨a,c,rfl,fun h0=>?_⟩;obtain ⟨b,c',hv,_,hR,_⟩:=Ly h h0;injection hv with hv _ _;subst hv;exact ⟨rfl,kZ hR h0⟩
theorem YA(s:List UInt8)(w:Ad)(hL:Laid w)(aa:10≤w.heap.size):Bx Aj 117 #[Co s] w fun v w'=>v = .bool (FE s)∧G w w':=by
 have g:=G.refl w;refine Cj 34 [0] Tryz.func117 ?_;refine R ?_;refine AK (cW s _ (hL.a g) Dj) ?_;rintro v8 w8 ⟨l,rfl,hT,g8⟩;obtain ⟨a,c,rfl,hr⟩:=ZS hT;refine ER g8 fun g=>?_;refine R ?_;refine AD U U U (fun _=>CS Mg (Am U id) Bl (fun hc=>by have:=AV (AN.1 hc.2).2;omega) (fun hc=>(hr (by have:=AV (AN.1 hc.2).2;omega)).1)) ?_;refine R ?_;refine BU U U U (AU Cd (Am U id) (fun hc=>(hr (by have:=AV (AN.1 hc.2).2;omega)).2 0 _ U)) ?_;refine R ?_;refine AD U U U (fun _=>CS Mg (Am U id) Bl (fun hc=>by have:=AV (AN.1 (AN.1 hc.2).1).2;omega) (fun hc=>(hr (by have:=AV (AN.1 (AN.1 hc.2).1).2;omega)).1)) ?_;refine R ?_;refine BU U U U (AU DU (Am U id) (fun hc=>(hr (by have:=AV (AN.1 (AN.1 hc.2).1).2;omega)).2 1 _ U)) ?_;refine Cw ?_;rw [← Yp];rfl
theorem Bu.ext'{a b:Bu}(h:a.c=b.c)(k:a.name=b.name):a=b:=by cases a;cases b;simp_all
def BP(a b:Bu):Bool:=Ae (a.c=b.c)&&(Ae (a.name=b.name)&&true)
theorem RG(a b:Bu):BP a b=true↔a=b:=by
 unfold BP;simp only [Bool.and_true,Dv,BQ];exact ⟨fun h=>Bu.ext' h.1 h.2,fun h=>by rw [h];exact ⟨rfl,rfl⟩⟩
theorem pI(a b:Bu):BP a b=BP b a:=by
 rw [Bool.eq_iff_iff,RG,RG];exact eq_comm
def tInt:Bu:=⟨1,[]⟩
def tBool:Bu:=⟨2,[]⟩
def tNil:Bu:=⟨3,[]⟩
def Km(y:Bu):Bool:=bif Ae (y.c=4) then FE y.name else (Ae (0≤y.c)&&Ae (y.c≤12))&&Ae (y.name=[])
def LM(y:Bu):Bool:=bif Ct [4,5,6,7] y.c then Km y else false
def E7(y:Bu):Bool:=(BP y tInt || BP y tBool) || LM y
def EL(to fr:Bu):Bool:=E7 to&&(BP fr to || (BP fr tNil&&LM to))
def Nt(a b:Bu):Bool:=bif BP a tNil || BP b tNil then LM a || LM b
 else bif Ct [1,2,4,6] a.c then BP a b&&Km a else false
theorem VM(y:Bu)(w:Ad)(hL:Laid w)(aa:10≤w.heap.size):Bx Aj 132 #[D3 y] w fun v w'=>v = .bool (Km y)∧G w w':=by
 have g:=G.refl w;refine Cj 22 [0] Tryz.func132 ?_;refine CN fun _ _ _ _ g E=>?_;refine Az (fun h1=>?_) fun h1=>?_;(try simp only [BJ] at h1);refine R ?_;refine DA (YA _ _ (hL.a g) Dj) (Do fun w8 g8 g E=>?_);refine Cw ?_;unfold Km;rw [h1];rfl;refine Cw ?_;unfold Km;rw [h1];rfl
theorem fI(y:Bu)(w:Ad):Bx Aj 100 #[D3 y] w fun v w'=>v = .bool (Km y)∧G w w':=by
 have g:=G.refl w;refine Cj 22 [0] Tryz.func100 ?_;refine CN fun _ _ _ _ g E=>?_;refine Az (fun h1=>?_) fun h1=>?_;(try simp only [BJ] at h1);refine R ?_;refine DA (M2 _ _) (Do fun w8 g8 g E=>?_);refine Cw ?_;unfold Km;rw [h1];rfl;refine Cw ?_;unfold Km;rw [h1];rfl
theorem TF(y:Bu)(w:Ad)(hL:Laid w)(aa:10≤w.heap.size):Bx Aj 118 #[D3 y] w fun v w'=>v = .bool (LM y)∧G w w':=by
 have g:=G.refl w;refine Cj 12 [0] Tryz.func118 ?_;refine CN fun _ _ _ _ g E=>?_;refine R ?_;refine' AZ [1,2] (fun ac=>?y1) (kq ?n1)
 case y1 =>
  refine R ?_;refine' AZ [1,2] (fun ad=>?y2) AX
  case y2 =>
   refine R ?_;refine' AZ [1,2] (fun aa=>?y3) AX
   case y3 =>
    refine R ?_;refine BL [5,1,2] ?_;exact Al AX
 case n1 =>
  refine Az (fun h4=>?_) fun h4=>?_;have hq:Ct [4,5,6,7] y.c=true:=h4;refine R ?_;refine DA (VM _ _ (hL.a g) Dj) (Do fun ab g11 g E=>?_);refine Cw ?_;unfold LM;rw [hq];rfl;have hq:Ct [4,5,6,7] y.c=false:=h4;refine Cw ?_;unfold LM;rw [hq];rfl
theorem jA(y:Bu):((Km y&&Ae (4≤y.c))&&Ae (y.c≤7))=LM y:=by
 unfold LM;by_cases h:4≤y.c∧y.c≤7;rw [BW h.1,BW h.2]
 have:Ct [4,5,6,7] y.c=true:=by
  simp only [Ct,Gz,BQ];omega
 rw [this];simp
 have:Ct [4,5,6,7] y.c=false:=by
  simp only [Ct,EG,CK];omega
 rw [this,A0,It,It,CK,CK];omega
theorem Ty(y:Bu)(w:Ad):Bx Aj 81 #[D3 y] w fun v w'=>v = .bool (LM y)∧G w w':=by
 have g:=G.refl w;refine Cj 15 [0] Tryz.func81 ?_;refine CN fun _ _ _ _ g E=>?_;refine R ?_;refine DA (fI _ _) (Do fun w4 g4 g E=>?_);refine Cw ?_;exact jA y
theorem OK(y:Bu)(w:Ad)(hL:Laid w)(ac:10≤w.heap.size):Bx Aj 93 #[D3 y] w fun v w'=>v = .bool (E7 y)∧G w w':=by
 have g:=G.refl w;refine Cj 15 [0] Tryz.func93 ?_;refine Ao (Ay (CN fun _ _ _ _ g E=>?_));refine BO U (Al (kq (Ao (Ay (CH Ci U U E.E.row (Gi Fw HW (A5 U Cz) U U (AG U (fun _=>I1 Ie (H U) (H U) U) (As U (BU U U U (A2 Ci (H U) U (fun _=>E.E.row)) (AD U U U (fun _=>Jz [_,_] Fw U HW (JG Bl (Ia)) U) (AD U U U (fun _=>I1 Ie (Am U id) (Am U id) U) (AG U (fun _=>Gv (H U) (Am U id)) (As U (BU U U U (A2 Ci (H U) U (fun _=>E.E.row)) (E9 U U U (fun _=>(BK WZ Cf (Cu (Am U id) (CY)) U)) (fun hc=>TF _ _ (hL.a g) Dj) (fun ab aa=>?_))))))))))))))));have g:=g.trans aa;replace E:=E.a aa;refine AC ?_;exact ⟨rfl,g⟩
theorem Ql(y:Bu)(w:Ad):Bx Aj 63 #[D3 y] w fun v w'=>v = .bool (E7 y)∧G w w':=by
 have g:=G.refl w;refine Cj 15 [0] Tryz.func63 ?_;refine Ao (Ay (CN fun _ _ _ _ g E=>?_));refine BO U (Al (kq (Ao (Ay (CH Ci U U E.E.row (Gi Fw HW (A5 U Cz) U U (AG U (fun _=>I1 Ie (H U) (H U) U) (As U (BU U U U (A2 Ci (H U) U (fun _=>E.E.row)) (AD U U U (fun _=>Jz [_,_] Fw U HW (JG Bl (Ia)) U) (AD U U U (fun _=>I1 Ie (Am U id) (Am U id) U) (AG U (fun _=>Gv (H U) (Am U id)) (As U (BU U U U (A2 Ci (H U) U (fun _=>E.E.row)) (E9 U U U (fun _=>(BK dR Cf (Cu (Am U id) (CY)) U)) (fun hc=>Ty _ _) (fun ab aa=>?_))))))))))))))));have g:=g.trans aa;replace E:=E.a aa;refine AC ?_;exact ⟨rfl,g⟩
theorem nJ(a b:Bu)(w:Ad)(hL:Laid w)(ac:10≤w.heap.size):Bx Aj 133 #[D3 a,D3 b] w fun v w'=>v = .bool (EL a b)∧G w w':=by
 have g:=G.refl w;refine Cj 21 [0,1] Tryz.func133 ?_;refine CN fun _ _ _ _ g E=>?_;refine LU fun _ _ _ _ g E=>?_;refine BO U (Al (kq (Ao (Ay (CH Ci U U E.Q.row (F1 U (BK dN Cf (CF U CT) U) (OK _ _ (hL.a g) Dj) (fun w6 g6=>?_)))))));have g:=g.trans g6;replace E:=E.a g6;refine As U (BU U U U (A2 Ci (H U) U (fun _=>E.E.row)) (BU U U U (A2 Ci (H U) U (fun _=>E.Q.row)) (AD U U U (fun _=>I1 Ie (Am U id) (Am U id) U) (AD U U U (fun _=>A9 (Am U id)) (BU U U U (A2 Ci (H U) U (fun _=>E.E.row)) (AD U U U (fun _=>Jz [_,_] Fw U HW (JG Bl (Ia)) U) (AD U U U (fun _=>I1 Ie (Am U id) (Am U id) U) (AD U U U (fun _=>A9 (Am U id)) (BU U U U (A2 Ci (H U) U (fun _=>E.Q.row)) (E9 U U U (fun _=>(BK WZ Cf (Cu (Am U id) (CY)) U)) (fun hc=>TF _ _ (hL.a g) Dj) (fun ab aa=>?_)))))))))));have g:=g.trans aa;replace E:=E.a aa;refine AC ?_;exact ⟨rfl,g⟩
theorem O0(a b:Bu)(w:Ad):Bx Aj 87 #[D3 a,D3 b] w fun v w'=>v = .bool (EL a b)∧G w w':=by
 have g:=G.refl w;refine Cj 21 [0,1] Tryz.func87 ?_;refine CN fun _ _ _ _ g E=>?_;refine LU fun _ _ _ _ g E=>?_;refine BO U (Al (kq (Ao (Ay (CH Ci U U E.Q.row (F1 U (BK yG Cf (CF U CT) U) (Ql _ _) (fun w6 g6=>?_)))))));have g:=g.trans g6;replace E:=E.a g6;refine As U (BU U U U (A2 Ci (H U) U (fun _=>E.Q.row)) (BU U U U (A2 Ci (H U) U (fun _=>E.E.row)) (AD U U U (fun _=>I1 Ie (Am U id) (Am U id) U) (AD U U U (fun _=>A9 (Am U id)) (BU U U U (A2 Ci (H U) U (fun _=>E.E.row)) (AD U U U (fun _=>Jz [_,_] Fw U HW (JG Bl (Ia)) U) (AD U U U (fun _=>I1 Ie (Am U id) (Am U id) U) (AD U U U (fun _=>A9 (Am U id)) (BU U U U (A2 Ci (H U) U (fun _=>E.Q.row)) (E9 U U U (fun _=>(BK dR Cf (Cu (Am U id) (CY)) U)) (fun hc=>Ty _ _) (fun ab aa=>?_)))))))))));have g:=g.trans aa;replace E:=E.a aa;refine Cw ?_;unfold EL;rw [pI b a];rfl
theorem uV(a b:Bu)(w:Ad)(hL:Laid w)(aa:10≤w.heap.size):Bx Aj 147 #[D3 a,D3 b] w fun v w'=>v = .bool (Nt a b)∧G w w':=by
 have g:=G.refl w;refine Cj 35 [0,1] Tryz.func147 ?_;refine CN fun _ _ _ _ g E=>?_;refine LU fun _ _ _ _ g E=>?_;refine A1 fun _ _ _ _ g E=>?_;refine AS fun _ _ _ g E=>?_;refine Az (fun h1=>?_) fun h1=>?_;have hq:(BP a tNil || BP b tNil)=true:=h1;refine R ?_;refine DA (TF _ _ (hL.a g) Dj) (Do fun ab ai g E=>?_);refine R ?_;refine F4 (fun hc=>TF _ _ (hL.a g) Dj) (Do fun af ah g E=>?_);refine Cw ?_;unfold Nt;rw [hq];rfl;have hq:(BP a tNil || BP b tNil)=false:=h1;refine R ?_;refine' AZ [2,3,4] (fun ae=>?y2) (kq ?n2)
 case y2 =>
  refine R ?_;refine' AZ [2,3,4] (fun aa=>?y3) AX
  case y3 =>
   refine R ?_;refine' AZ [2,3,4] (fun ad=>?y4) AX
   case y4 =>
    refine R ?_;refine BL [23,2,3,4] ?_;exact Al AX
 case n2 =>
  refine Az (fun h5=>?_) fun h5=>?_;have hr:Ct [1,2,4,6] a.c=true:=h5;refine R ?_;refine F4 (fun hc=>VM _ _ (hL.a g) Dj) (Do fun ac ag g E=>?_);refine Cw ?_;unfold Nt;rw [hq,hr];rfl;have hr:Ct [1,2,4,6] a.c=false:=h5;refine Cw ?_;unfold Nt;rw [hq,hr];rfl
theorem zZ(a b:Bu):(((BP a b&&E7 a) && !Ae (a.c=5)) && !Ae (a.c=7))=(bif Ct [1,2,4,6] a.c then BP a b&&Km a else false):=by
 cases BP a b;simp;simp only [HZ];unfold E7 LM Ct Ct Ct Ct;by_cases h1:a.c=1;have:BP a tInt=Km a:=by unfold BP Km;simp [h1,tInt];exact decide_eq_decide.2 Iff.rfl
 have:BP a tBool=false:=by unfold BP;simp [h1,tBool]
 simp_all;by_cases h2:a.c=2;have:BP a tBool=Km a:=by unfold BP Km;simp [h2,tBool];exact decide_eq_decide.2 Iff.rfl
 have:BP a tInt=false:=by unfold BP;simp [h2,tInt]
 simp_all;have e1:BP a tInt=false:=by unfold BP;simp [h1,tInt]
 have e2:BP a tBool=false:=by unfold BP;simp [h2,tBool]
 rw [e1,e2];by_cases h4:a.c=4;simp [h4];by_cases h6:a.c=6;simp [h6];by_cases h5:a.c=5;simp [h5];by_cases h7:a.c=7;simp [h7];simp [h1,h2,h4,h5,h6,h7]
theorem sE(a b:Bu)(w:Ad):Bx Aj 142 #[D3 a,D3 b] w fun v w'=>v = .bool (Nt a b)∧G w w':=by
 have g:=G.refl w;refine Cj 38 [0,1] Tryz.func142 ?_;refine CN fun _ _ _ _ g E=>?_;refine LU fun _ _ _ _ g E=>?_;refine A1 fun _ _ _ _ g E=>?_;refine AS fun _ _ _ g E=>?_;refine Az (fun h1=>?_) fun h1=>?_;have hq:(BP a tNil || BP b tNil)=true:=h1;refine R ?_;refine DA (Ty _ _) (Do fun aa af g E=>?_);refine R ?_;refine F4 (fun hc=>Ty _ _) (Do fun ae ad g E=>?_);refine Cw ?_;unfold Nt;rw [hq];rfl;have hq:(BP a tNil || BP b tNil)=false:=h1;refine R ?_;refine F4 (fun hc=>Ql _ _) (Do fun ab ac g E=>?_);refine Cw ?_;unfold Nt;rw [hq,← zZ];rfl
def tFunc:Bu:=⟨7,[]⟩
def J1:List (List UInt8):=[[],[105,110,116],[98,111,111,108],[110,105,108],[],[91,93,105,110,116],[99,104,97,110,32,105,110,116],[102,117,110,99,40,41],[109,117,116,101,120],[114,119,109,117,116,101,120],[103,114,111,117,112],[111,110,99,101],[97,116,111,109,105,99]]
def M7(w:Ad):Prop:=Cv w 0 0 (J1.map Co)
theorem M7.a{w w':Ad}(h:M7 w)(g:G w w'):M7 w':=Cv.a h g
theorem nP{k:Int}(h0:0≤k)(h1:k≤12):(J1.map Co)[k.toNat]? = some (Co (J1.getD k.toNat [])):=by
 have hl:J1.length=13:=rfl;have h:k.toNat<J1.length:=by omega
 rw [List.getElem?_map,Bh h,CW,Bh h];rfl
section
variable {α:Type} {f:α→List Ak} {z:Nat}
theorem RX(hf:∀ a,(f a).length=z):∀ (l:List α),(l.flatMap f).length=l.length*z
 | []=>by simp
 | a::l=>by rw [Fe,DF,hf,RX hf l,FB,Nat.succ_mul,Nat.add_comm]
theorem YN(hf:∀ a,(f a).length=z):∀ (l:List α) (i:Nat) (h:i<l.length),((l.flatMap f).drop (i*z)).take z=f l[i]
 | [],_,h=>by cases h
 | a::l,0,_=>by
  rw [Fe,Nat.zero_mul,List.drop_zero,List.take_append_of_le_length (by rw [hf];exact BM _),Lz (by rw [hf];exact BM _)];rfl
 | a::l,i+1,h=>by
  have e:(((a::l).flatMap f)).drop ((i+1)*z)=(l.flatMap f).drop (i*z):=by
   rw [Fe,Nat.succ_mul,Nat.add_comm,← List.drop_drop];congr 1;rw [← hf a,List.drop_left]
  rw [e];exact YN hf l i (by simpa using h)
def Le(f:α→List Ak)(w:Ad)(l:List α)(v:Ak):Prop :=
 ∃ p c,v = .slice p l.length c∧l.length≤c∧(0<l.length→∃ b o,p=some ⟨b,o,none⟩∧Cv w b o (l.flatMap f))
theorem Le.a{w w':Ad}{l:List α}{v:Ak}(h:Le f w l v)(g:G w w'):Le f w' l v:=by
 obtain ⟨p,c,rfl,hc,h⟩:=h;refine ⟨p,c,rfl,hc,fun h0=>?_⟩;obtain ⟨b,o,rfl,hR⟩:=h h0;exact ⟨b,o,rfl,hR.a g⟩
theorem PC(w:Ad):Le f w [] (.slice none 0 0):=⟨none,0,rfl,BM _,fun h=>absurd h (Nat.lt_irrefl 0)⟩
theorem XZ{w:Ad}{base:Nat}{e:Aw}{v:Ak}{m:Nat}{l:List α}(h:w.ownsRow base e z v m (l.flatMap f))(hm:m=l.length):Le f w l v:=by
 subst hm;obtain ⟨a,c,rfl,hc⟩:=Im h;refine ⟨a,c,rfl,hc,fun h0=>?_⟩;obtain ⟨b,c',hv,_,hR,_⟩:=Ly h h0;injection hv with hv _ _;subst hv;exact ⟨b,0,rfl,hR⟩
theorem Ow(hf:∀ a,(f a).length=z){w:Ad}{b o:Nat}{l:List α}(h:Cv w b o (l.flatMap f)){i:Nat}(hi:i<l.length):Cv w b (o+i*z) (f l[i]):=by
 have:=h.part (i*z) z;rwa [YN hf l i hi] at this
end
def nU(b:Nat)(e:Aw)(l:List Ak)(w:Ad):Prop:=Av w b e l
def kY(p q:Ad→Prop)(w:Ad):Prop:=p w∧q w
def yZ(w:Ad):Prop:=True
theorem A6{w:Ad}{b:Nat}{e:Aw}{l:List Ak}(h:Av w b e l):nU b e l w:=h
theorem A4{p q:Ad→Prop}{w:Ad}(h:p w)(k:q w):kY p q w:=⟨h,k⟩
theorem Di(w:Ad):yZ w:=BN
section
variable {P:BH} {B:List Bd→Ad→Prop} {n:Nat} {N T:Act→Ad→Prop} {X:List (Nat×(Act→Ad→Prop))} {σ:List Ce} {w:Ad}
theorem GG{c:Code}{α:Type}(I:α→Ad→Prop)(E:Ad→Prop)(σc:List Ce)(σf:α→List Ce)(μ:α→Nat)(x0:α)(h0:I x0 w)(hE:E w)(hs:Hs (σf x0 ++ σc) σ)
 (round:∀ x w,I x w→E w→EW P B n c (fun a' w'=>∃ y,Cx n (σf y ++ σc) a'∧I y w'∧E w'∧μ y < μ x) X T (σf x ++ σc) w):EW P B n (.loop c) N X T σ w:=by
 refine QP (fun x w=>I x w∧E w) (fun x=>σf x ++ σc) μ x0 ⟨h0,hE⟩ hs fun x w ⟨h1,h2⟩=>?_;refine .mk fun a ha=>Code.wp_mono (fun e a w q=>?_) (round x w h1 h2 a ha)
 cases e with
 | normal=>obtain ⟨y,q1,q2,q3,q4⟩:=q;exact ⟨y,q1,⟨q2,q3⟩,q4⟩
 | _=>exact q
end
theorem PR{w:Ad}{D:Nat→Prop}:∀ {ls:List Nd} {news:List Ak},D8 w D ls news→LZ news=true
 | [],news,h=>by rw [show news=[] from h];rfl
 | t::ls,news,h=>by
  obtain ⟨v,r,rfl,aa,hr⟩:=h;rw [NX] at aa;obtain ⟨p,c,rfl,_⟩:=aa;have:=PR hr;unfold LZ at this ⊢;rw [List.all_append,this,Bool.and_true];rfl
theorem O4{w:Ad}{base b:Nat}{e:Aw}{z m:Nat}{l:List Ak}(h:Av w b e l)(hb:base≤b)(hl:l.length=m*z)(hm:m≤1000000):w.ownsRow base e z (.slice (some ⟨b,0,none⟩) m m) m l :=
 ⟨hl,.inr ⟨b,m,l.toArray,rfl,hb,h,BM _,by simp only [maxLen];omega,by simpa using hl,by simp [← hl]⟩⟩
def IQ(base:Nat)(X:List Nat)(b:Nat):Prop:=base≤b∧b∉X
def D5(e:Aw)(D:Nat→Prop)(base:Nat)(w:Ad)(ks:List Nd)(s:Ak):Prop :=
 ∃ xs,w.ownsRow base e 9 s ks.length xs∧D8 w (fun b=>D b∧some b≠s.ownBlock) ks xs∧∀ b,s.ownBlock=some b→D b
section
variable {e:Aw} {D:Nat→Prop} {base:Nat} {w w':Ad} {ks:List Nd} {s:Ak}
theorem So(e:Aw)(D:Nat→Prop)(base:Nat)(w:Ad):D5 e D base w [] (.slice none 0 0):=⟨[],JX _ _ _ _,NK,fun b h=>by cases h⟩
theorem D5.slice(h:D5 e D base w ks s):∃ a c,s = .slice a ks.length c:=by
 obtain ⟨xs,h1,_⟩:=h;obtain ⟨a,c,h2,_⟩:=Im h1;exact ⟨a,c,h2⟩
theorem D5.ge(h:D5 e D base w ks s):∀ k,s.ownBlock=some k→base≤k:=by
 obtain ⟨xs,h1,_⟩:=h;exact fun k hk=>(h1.lt k hk).1
theorem D5.lt(h:D5 e D base w ks s):∀ k,s.ownBlock=some k→k<w.heap.size:=by
 obtain ⟨xs,h1,_⟩:=h;exact fun k hk=>(h1.lt k hk).2
theorem D5.W(h:D5 e D base w ks s){b:Nat}(hb:¬ D b):some b≠s.ownBlock:=by
 obtain ⟨xs,_,_,h3⟩:=h;exact fun he=>hb (h3 b he.symm)
theorem D5.a(h:D5 e D base w ks s)(g:G w w'):D5 e D base w' ks s:=by
 obtain ⟨xs,h1,h2,h3⟩:=h;exact ⟨xs,D7 h1 g,h2.a g,h3⟩
theorem D5.A(h:D5 e D base w ks s){b:Nat}(hg:w.grownBy w' (some b))(hb:¬ D b):D5 e D base w' ks s:=by
 obtain ⟨xs,h1,h2,h3⟩:=h;refine ⟨xs,Df h1 hg (.inr fun he=>hb (h3 b he)),h2.A hg fun k hk _ he=>?_,h3⟩;injection he with he;exact hb (he▸hk.1)
theorem D5.kd(h:D5 e D base w ks s){D':Nat→Prop}(hD:∀ b,D b→D' b):Bo w D' ks s:=by
 obtain ⟨xs,h1,h2,h3⟩:=h;exact gV h1 rfl (h2.mono fun b hb _=>hD b hb.1) fun b hb=>hD b (h3 b hb)
theorem M1{b:Nat}{t:Nd}{v:Ak}(h:Av w b e (Cs t v))(hb:base≤b)(hk:Bo w (fun k=>D k∧k≠b) t.b v)(hD:D b):D5 e D base w [t] (.slice (some ⟨b,0,none⟩) 1 1):=by
 refine ⟨_,O4 h hb U Cb,Dh (hk.mono fun k hk _=>⟨hk.1,fun he=>?_⟩),fun k hk=>?_⟩;injection he with he;exact hk.2 he;injection hk with hk;exact hk▸hD
theorem D5.append{ls:List Nd}{news:List Ak}{a':Option Addr}{c':Nat}{xs:List Ak}(h:D5 e D base w ks s)(hx:w.ownsRow base e 9 s ks.length xs)(hX:D8 w (fun b=>D b∧some b≠s.ownBlock) ks xs)
 (hn:D8 w (fun b=>D b∧some b≠s.ownBlock) ls news) (hD:D w.heap.size) (ho:w'.ownsRow base e 9 (.slice a' (ks.length+ls.length) c') (ks.length+ls.length) (xs++news)) (hg:w.grownBy w' s.ownBlock)
 (ac:(Ez a' (ks.length+ls.length) c').ownBlock=s.ownBlock∨(Ez a' (ks.length+ls.length) c').ownBlock=some w.heap.size):D5 e D base w' (ks++ls) (.slice a' (ks++ls).length c'):=by
 have aa:(ks++ls).length=ks.length+ls.length:=by simp
 refine ⟨xs++news,by rw [aa];exact ho,?_,?_⟩;have h1:=Rf hX hn;rw [aa];refine Lx (fun b hb ab=>⟨hb.1,?_⟩) (fun b hb ab=>hg.block b ab hb.2) _ _ h1;rcases ac with he|he <;> rw [he]
 exact hb.2;intro e;injection e with e;omega;rw [aa];intro b hb;rcases ac with he|he <;> rw [he] at hb
 obtain ⟨_,_,_,h3⟩:=h;exact h3 b hb;injection hb with hb;exact hb▸hD
end
section
variable {P:BH} {Z:List Bd→Act→Ad→Prop} {ops:List Oper} {cl:List Nat} {lv:List Bool} {W0:Ad} {n:Nat} {H':Act→Ad→Prop} {k:Nat} {rest:List Oper} {σ:List Ce} {w:Ad} {d:Nat} {ty:Aw} {pos:String} {after:Array Edge}
theorem VS{t e base q q':Nat}{x y:A7}{s zv:Ak}{news:List Ak}{b' o':Nat}{D:Nat→Prop}{ks ls:List Nd}(hb:(Ap (Bw cl k) 2&&CQ d n)=true)(ht:FQ P t=some (e,9,104))(ae:Gc P e=some zv)
 (ac:zv.cells.size=9) (hx:Bz n σ True x s) (hO:D5 e D base w ks s) (hy:Bz n σ True y (.slice (some ⟨b',o',none⟩) q q')) (hq:ls.length=q) (hn:Cv w b' o' news) (hK:D8 w (fun b=>D b∧some b≠s.ownBlock) ls news)
 (af:ks.length+ls.length≤10000000) (aa:base≤w.heap.size) (hD:D w.heap.size)
 (h:∀ a' c' w',D5 e D base w' (ks++ls) (.slice a' (ks++ls).length c')→w.grownBy w' s.ownBlock→Bv P Z ops cl lv W0 n H' (k+1) rest ((d,True,.slice a' (ks++ls).length c') :: σ) w') :
 Bv P Z ops cl lv W0 n H' k (⟨some d,.call { callee:=.builtin .append,args:=#[x,y],argTypes:=#[t,t] },ty,pos,after,none⟩::rest) σ w:=by
 obtain ⟨xs,h1,h2,h3⟩:=id hO;subst hq;have ab:=PR hK;refine ID hb ht ae ac Cb hx h1 hy (Nq hK) hn ab (by simp only [maxLen];omega) O aa fun a' c' w' ho hg ad=>?_;have:=h a' c' w' (hO.append h1 h2 hK hD ho hg ad) hg;rwa [DF] at this
end
theorem cM{l:List Nd}{i:Nat}(f:Nd→Nat)(h:i<l.length):((l.take (i+1)).map f).sum=((l.take i).map f).sum+f l[i]:=by
 rw [WV f l i h,Ic];simp
theorem WL:∀ (t:Nd) (v:Ak) (D:Nat→Prop) (w:Ad),Bo w D t.b v→count t≤4611686018427387904→Bx Aj 18 #[BV t v] w fun r w'=>r = .int .i64 (count t:Nat)∧G w w':=by
 refine Nd.ao fun t ih v D w hk hc=>?_;obtain ⟨p,c,rfl,af,ad⟩:=hk;have g:=G.refl w;have ae:=Ej t;refine Cj 21 [0] Tryz.func18 ?_;refine CN fun _ w1 _ _ g E=>?_;refine R ?_;refine GZ (fun (i:Nat) u1=>(i≤t.b.length)∧G w1 u1) [(1,True,_),(2,True,_)] (fun (i:Nat)=>[(3,True,.int .i64 ((1+((t.b.take i).map count).sum:Nat):Int)),(4,True,.int .i64 i)]) (fun (i:Nat)=>t.b.length-i) (0) ⟨by simp,G.refl _⟩ (K U (K U (K U (K U (Bm _))))) ?_;rintro i u1 ⟨ag,aa⟩;have g:=g.trans aa;replace E:=E.a aa;refine Ao (Ao (Ay (As U (AF AW U (AL Bj U (E.E.j U) (ED AB U (G2 U U (Al (kq (CB U (fun h1=>?_) (fun h1=>?_)))))))))));have h1:i<t.b.length:=by simp only [BQ] at h1;omega
 obtain ⟨b,o,rfl,hD,xs,hR,hX⟩:=ad O;obtain ⟨p',c',hcell,ab⟩:=I9 hR hX h1;have ai:=J5 h1;refine CU (kq (Ao (DY (Ay (As U (AF AW U (AL Bj U (E.E.j U) (As U (Hh AB U U O (CH A3 U U (hcell.a g) (F1 U (BK YX Cf (CF U CT) U) (ih _ (GB h1) _ _ _ (ab.a g) O) (fun ah ac=>?_))))))))))));have aa:=aa.trans (ac);replace E:=E.a ac;refine R ?_;refine BL [3,4,1,2] ?_;refine Al (fun a ha=>?_);have e:((1+((t.b.take i).map count).sum:Nat):Int)+(count t.b[i]:Nat)=((1+((t.b.take (i+1)).map count).sum:Nat):Int):=by rw [cM count h1];omega
 rw [e] at ha;exact ⟨i+1,ha,⟨h1,aa⟩,O⟩;have h1:i=t.b.length:=by simp only [CK] at h1;omega
 refine AC ?_;refine ⟨?_,g⟩;rw [h1,List.take_length,← Iy]
theorem Ri{α:Type}{l:List α}{i:Nat}(h:i<l.length):l.take (i+1)=l.take i++[l[i]]:=by
 rw [Ik,Bh h];rfl
def Vj(t:Nd)(base:Nat)(r:Ak)(w:Ad):Prop:=∃ p c,r=BV t (.slice p t.b.length c)∧Bo w (fun b=>base≤b) t.b (.slice p t.b.length c)
def Ig:List (List UInt8):=[[105,110,116],[98,111,111,108],[91,93,105,110,116],[99,104,97,110],[102,117,110,99],[109,117,116,101,120],[114,119,109,117,116,101,120],[103,114,111,117,112],[111,110,99,101],[97,116,111,109,105,99]]
def Is(s:List UInt8):Bool:=Er Ig s
theorem iX(s:List UInt8)(w:Ad):Bx Aj 79 #[Co s] w fun v w'=>v = .bool (Is s)∧G w w':=by
 have g:=G.refl w;refine Cj 15 [0] Tryz.func79 ?_;refine R ?_;refine' AZ [2] (fun aj=>?y1) (kq ?n1)
 case y1 =>
  refine R ?_;refine' AZ [2] (fun ai=>?y2) AX
  case y2 =>
   refine R ?_;refine' AZ [2] (fun ag=>?y3) AX
   case y3 =>
    refine R ?_;refine' AZ [2] (fun ah=>?y4) AX
    case y4 =>
     refine R ?_;refine' AZ [2] (fun ae=>?y5) AX
     case y5 =>
      refine R ?_;refine' AZ [2] (fun af=>?y6) AX
      case y6 =>
       refine R ?_;refine' AZ [2] (fun ac=>?y7) AX
       case y7 =>
        refine R ?_;refine' AZ [2] (fun ab=>?y8) AX
        case y8 =>
         refine R ?_;refine' AZ [2] (fun ad=>?y9) AX
         case y9 =>
          refine R ?_;refine BL [4,2] ?_;exact Al AX
 case n1 =>
  refine Az (fun aa=>?_) fun aa=>?_;(try simp only [BJ] at aa);refine Cw ?_;simp only [Is,Er,Ig];exact (aa).symm;refine Cw ?_;simp only [Is,Er,Ig];exact (aa).symm
def Kd(t:Nd):Bool:=Ae ((t.b.length:Int)=0)
def G8(t:Nd):Bool:=bif Ae (t.c=8) then FE t.i&&Kd t else bif Ae (t.c=7) then Is t.i&&Kd t else false
theorem Tv(t:Nd)(p:Option Addr)(c:Nat)(w:Ad):Bx Aj 61 #[BV t (.slice p t.b.length c)] w fun v w'=>v = .bool (G8 t)∧G w w':=by
 have g:=G.refl w;refine Cj 27 [0] Tryz.func61 ?_;refine CN fun _ _ _ _ g E=>?_;refine Az (fun h1=>?_) fun h1=>?_;(try simp only [BJ] at h1);refine R ?_;refine DA (M2 _ _) (Do fun w9 g9 g E=>?_);refine Cw ?_;unfold G8;simp only [h1,A8,A0] <;> rfl
 refine Az (fun h2=>?_) fun h2=>?_;(try simp only [BJ] at h2);refine R ?_;refine DA (iX _ _) (Do fun ab aa g E=>?_);refine Cw ?_;unfold G8;simp only [h1,h2,A8,A0] <;> rfl
 refine Cw ?_;unfold G8;simp only [h1,h2,A8,A0] <;> rfl
def Lb:List (List UInt8):=[[124,124],[38,38],[61,61],[33,61],[60],[60,61],[62],[62,61],[43],[45],[42],[47],[37]]
theorem jC(s:List UInt8)(w:Ad):Bx Aj 96 #[Co s] w fun v w'=>v = .bool (Er Lb s)∧G w w':=by
 have g:=G.refl w;refine Cj 18 [0] Tryz.func96 ?_;refine R ?_;refine' AZ [2] (fun am=>?y1) (kq ?n1)
 case y1 =>
  refine R ?_;refine' AZ [2] (fun al=>?y2) AX
  case y2 =>
   refine R ?_;refine' AZ [2] (fun aj=>?y3) AX
   case y3 =>
    refine R ?_;refine' AZ [2] (fun ak=>?y4) AX
    case y4 =>
     refine R ?_;refine' AZ [2] (fun ah=>?y5) AX
     case y5 =>
      refine R ?_;refine' AZ [2] (fun ai=>?y6) AX
      case y6 =>
       refine R ?_;refine' AZ [2] (fun af=>?y7) AX
       case y7 =>
        refine R ?_;refine' AZ [2] (fun ae=>?y8) AX
        case y8 =>
         refine R ?_;refine' AZ [2] (fun ag=>?y9) AX
         case y9 =>
          refine R ?_;refine' AZ [2] (fun ab=>?y10) AX
          case y10 =>
           refine R ?_;refine' AZ [2] (fun ad=>?y11) AX
           case y11 =>
            refine R ?_;refine' AZ [2] (fun ac=>?y12) AX
            case y12 =>
             refine R ?_;refine BL [4,2] ?_;exact Al AX
 case n1 =>
  refine Az (fun aa=>?_) fun aa=>?_;(try simp only [BJ] at aa);refine Cw ?_;simp only [Er,Lb];exact (aa).symm;refine Cw ?_;simp only [Er,Lb];exact (aa).symm
def jW:List (List UInt8×Int):=[([105,110,116],1),([98,111,111,108],2),([91,93,105,110,116],5),([99,104,97,110],6),([102,117,110,99],7),([109,117,116,101,120],8),([114,119,109,117,116,101,120],9),([103,114,111,117,112],10),([111,110,99,101],11),([97,116,111,109,105,99],12)]
def Mk(s:List UInt8):Int:=(jW.lookup s).getD 0
def BF(t:Nd):Bu×Bool :=
 bif !Kd t then (AA,false)
 else bif Ae (t.c=9) then (AA,Ae (t.i=[]))
 else bif Ae (t.c=8) then (bif FE t.i then (⟨4,t.i⟩,true) else (AA,false))
 else bif Ae (t.c=7) then (bif Is t.i then (⟨Mk t.i,[]⟩,true) else (AA,false))
 else (AA,false)
theorem mH:((FS 13).all fun i=>Er [[],[110,105,108],[99,104,97,110,32,105,110,116],[102,117,110,99,40,41]] (J1.getD i []) || (Is (J1.getD i [])&&Ae (Mk (J1.getD i [])=(i:Int))))=true:=Ai
theorem MW{i:Nat}(hi:i<13){s:List UInt8}(hs:Er [[],[110,105,108],[99,104,97,110,32,105,110,116],[102,117,110,99,40,41]] s=false)(h:J1.getD i []=s):Is s=true∧Mk s=i:=by
 have:=Fy.1 mH i (List.mem_range.2 hi);rw [h,hs] at this;simpa using this
theorem oI:(Ig.all fun s=>Er [[99,104,97,110],[102,117,110,99]] s || (FS 13).any fun i=>Ae (J1.getD i []=s))=true:=Ai
theorem MP{s:List UInt8}(h1:Ae (s=[99,104,97,110])=false)(h2:Ae (s=[102,117,110,99])=false)(h:∀ i,i<13→J1.getD i []≠s):Is s=false:=by
 cases hn:Is s;rfl;have:=Fy.1 oI s ((KX _ _).1 hn);simp only [Er,h1,h2,Dg,Bool.false_or,List.any_eq_true,BQ,List.mem_range] at this;obtain ⟨i,hi,he⟩:=this;exact absurd he (h i hi)
theorem Mv{s:List UInt8}(h:Er [[],[110,105,108],[99,104,97,110,32,105,110,116],[102,117,110,99,40,41]] s=true):Is s=false:=by
 have:=(KX _ _).1 h;simp only [List.mem_cons,List.not_mem_nil,or_false] at this;rcases this with rfl|rfl|rfl|rfl <;> rfl
theorem ZE(t:Nd)(p:Option Addr)(c:Nat)(w:Ad)(hL:Laid w)(aj:10≤w.heap.size)(ag:M7 w)(ah:t.b.length≤1000000):Bx Aj 92 #[BV t (.slice p t.b.length c)] w fun v w'=>v = .tuple #[D3 (BF t).1,.bool (BF t).2]∧G w w':=by
 have g:=G.refl w;refine Cj 56 [0] Tryz.func92 ?_;refine CN fun _ w1 _ _ g E=>?_;refine A1 fun b2 w2 _ _ g E=>?_;refine Az (fun h1=>?_) fun h1=>?_
 have hq:Kd t=false:=by
  have:0<t.b.length:=by simp only [BQ] at h1;omega
  unfold Kd;rw [CK];omega
 refine H8 ?_;have h0:Co [] = .string ⟨#[]⟩:=rfl;unfold BF;simp only [hq,Cl,Cr,h1,A8,A0]
 first
 | rfl
 | (rw [AV h6];rfl)
 | (rw [AV h7];rfl)
 | (rw [Mv aa];rfl)
 | (obtain ⟨e1,e2⟩:=MW ab aa (AV ac);rw [e1,e2];rfl)
 | (rw [MP h6 h7 (fun j hj=>ad.2 j O)];rfl)
 have hq:Kd t=true:=by
  unfold Kd;rw [BQ];simp only [CK] at h1;omega
 refine Az (fun h2=>?_) fun h2=>?_;(try simp only [BJ] at h2);refine R ?_;refine DE (Ef (some b2)) [3,3,0,3,1,3] [0,0,2,6,1,31] CI Ai [0,1,2,3,4,5] U ?_;refine Ft fun g E=>?_;refine Au 0 U U (fun _=>Jz [_,_] Fw U HW (Ia) U) (Au 1 U U (fun _=>AE E6 (H U)) (Bg 2 U U (fun w1 hx=>AU DU (H U) (fun _=>(E.Q.A hx (fun h=>E.W 1 0 U U U (EM h))).j U)) (Au 3 U U (fun _=>QC (H U) Bl) (AQ 4 U U ?_))));refine Br (L':=[5]) [3,3,0,3,2,3] U U U ?_;refine AS fun _ af _ g E=>?_;refine Bs (af) ?_;refine Au 5 U U (fun _=>Eu (H U)) (Dp [2,3] (FF (kq (DZ (KV (rs:=[.cell 2 24,.tmp 3]) (vs:=[_,_]) U U (HQ U Ci U (E.E.row) (J7 U (HP))) U ?_)))));refine ⟨?_,g⟩;have h0:Co [] = .string ⟨#[]⟩:=rfl;unfold BF;simp only [hq,Cl,Cr,h1,h2,A8,A0]
 first
 | rfl
 | (rw [AV h6];rfl)
 | (rw [AV h7];rfl)
 | (rw [Mv aa];rfl)
 | (obtain ⟨e1,e2⟩:=MW ab aa (AV ac);rw [e1,e2];rfl)
 | (rw [MP h6 h7 (fun j hj=>ad.2 j O)];rfl)
 refine Az (fun h3=>?_) fun h3=>?_;(try simp only [BJ] at h3);refine R ?_;refine DA (YA _ _ (hL.a g) Dj) (Do fun an al g E=>?_);refine Al (kq (CB U (fun h4=>?_) (fun h4=>?_)));(try simp only [BJ] at h4);refine Ao (Ay (AF E6 U (AL DU U (E.Q.j U) (Gi Fw HW (A5 U (A5 U Cz)) U U (AS fun _ _ _ g E=>?_)))));refine AC ?_;refine ⟨?_,g⟩;have h0:Co [] = .string ⟨#[]⟩:=rfl;unfold BF;simp only [hq,Cl,Cr,h1,h2,h3,h4,A8,A0]
 first
 | rfl
 | (rw [AV h6];rfl)
 | (rw [AV h7];rfl)
 | (rw [Mv aa];rfl)
 | (obtain ⟨e1,e2⟩:=MW ab aa (AV ac);rw [e1,e2];rfl)
 | (rw [MP h6 h7 (fun j hj=>ad.2 j O)];rfl)
 refine H8 ?_;have h0:Co [] = .string ⟨#[]⟩:=rfl;unfold BF;simp only [hq,Cl,Cr,h1,h2,h3,h4,A8,A0]
 first
 | rfl
 | (rw [AV h6];rfl)
 | (rw [AV h7];rfl)
 | (rw [Mv aa];rfl)
 | (obtain ⟨e1,e2⟩:=MW ab aa (AV ac);rw [e1,e2];rfl)
 | (rw [MP h6 h7 (fun j hj=>ad.2 j O)];rfl)
 refine Az (fun h5=>?_) fun h5=>?_;(try simp only [BJ] at h5);refine Az (fun h6=>?_) fun h6=>?_;(try simp only [BJ] at h6);refine H8 ?_;have h0:Co [] = .string ⟨#[]⟩:=rfl;unfold BF;simp only [hq,Cl,Cr,h1,h2,h3,h5,h6,A8,A0]
 first
 | rfl
 | (rw [AV h6];rfl)
 | (rw [AV h7];rfl)
 | (rw [Mv aa];rfl)
 | (obtain ⟨e1,e2⟩:=MW ab aa (AV ac);rw [e1,e2];rfl)
 | (rw [MP h6 h7 (fun j hj=>ad.2 j O)];rfl)
 refine Az (fun h7=>?_) fun h7=>?_;(try simp only [BJ] at h7);refine H8 ?_;have h0:Co [] = .string ⟨#[]⟩:=rfl;unfold BF;simp only [hq,Cl,Cr,h1,h2,h3,h5,h6,h7,A8,A0]
 first
 | rfl
 | (rw [AV h6];rfl)
 | (rw [AV h7];rfl)
 | (rw [Mv aa];rfl)
 | (obtain ⟨e1,e2⟩:=MW ab aa (AV ac);rw [e1,e2];rfl)
 | (rw [MP h6 h7 (fun j hj=>ad.2 j O)];rfl)
 refine R ?_;refine' AZ [1,2,3] (fun ak=>?y8) (kq ?n8)
 case y8 =>
  refine R ?_;refine' AZ [1,2,3] (fun am=>?y9) AX
  case y9 =>
   refine R ?_;refine' AZ [1,2,3] (fun ai=>?y10) AX
   case y10 =>
    refine R ?_;refine BL [37,1,2,3] ?_;exact Al AX
 case n8 =>
  refine CB U (fun aa=>?_) (fun aa=>?_);have aa:(Er [[],[110,105,108],[99,104,97,110,32,105,110,116],[102,117,110,99,40,41]] t.i)=true:=aa;refine Ao (Ay (Gi Fw HW Cz U U (AS fun _ _ _ g E=>?_)));refine BO U (Al (kq (DZ (KV (rs:=[.cell 2 24,.tmp 3]) (vs:=[_,_]) U U (HQ U Ci U (E.E.row) (J7 U (HP))) U ?_))));refine ⟨?_,g⟩;have h0:Co [] = .string ⟨#[]⟩:=rfl;unfold BF;simp only [hq,Cl,Cr,h1,h2,h3,h5,h6,h7,aa,A8,A0]
  first
  | rfl
  | (rw [AV h6];rfl)
  | (rw [AV h7];rfl)
  | (rw [Mv aa];rfl)
  | (obtain ⟨e1,e2⟩:=MW ab aa (AV ac);rw [e1,e2];rfl)
  | (rw [MP h6 h7 (fun j hj=>ad.2 j O)];rfl)
  have aa:(Er [[],[110,105,108],[99,104,97,110,32,105,110,116],[102,117,110,99,40,41]] t.i)=false:=aa;refine CU (kq (Ao (Ay (CH dV U U (ag.a g) (As U (Al (kq (DY (GZ (fun (i:Nat) u1=>(i≤13∧∀ j,j<i→J1.getD j []≠t.i)∧G w2 u1) [(1,True,_),(2,True,_),(43,True,_)] (fun (i:Nat)=>[(44,True,.int .i64 i)]) (fun (i:Nat)=>13-i) (0) ⟨⟨DV _,fun j hj=>absurd hj (IG j)⟩,G.refl _⟩ (K U (K U (K U (K U (Bm _))))) ?_)))))))));rintro i u1 ⟨ad,ae⟩;have g:=g.trans ae;replace E:=E.a ae;refine Ao (Ay (G2 U U (Al (kq (Ao (CB U (fun ab=>?_) (fun ab=>?_)))))));have ab:i<13:=by simp only [BQ] at ab;omega
  refine CU (kq (Ao (DY (Ao (Ay (As U (AG U (fun _=>XE gK (H U) (H U) (fun _=>O) (fun _=>by show (J1.map Co).toArray[((i:Nat):Int).toNat]? = _;rw [HN];exact nP (k:=(i:Int)) O O)) (BO U (BO U (Al (kq (Ao (Ay (As U (AF E6 U (AL DU U (E.Q.j U) (Mb U U (?_))))))))))))))))));refine Al (kq (CB U (fun ac=>?_) (fun ac=>?_)));have ac:(Ae (J1.getD i []=t.i))=true:=ac;refine AS fun _ ga _ g E=>?_;refine AC ?_;refine ⟨?_,g⟩;have h0:Co [] = .string ⟨#[]⟩:=rfl;unfold BF;simp only [hq,Cl,Cr,h1,h2,h3,h5,h6,h7,aa,ab,ac,A8,A0]
  first
  | rfl
  | (rw [AV h6];rfl)
  | (rw [AV h7];rfl)
  | (rw [Mv aa];rfl)
  | (obtain ⟨e1,e2⟩:=MW ab aa (AV ac);rw [e1,e2];rfl)
  | (rw [MP h6 h7 (fun j hj=>ad.2 j O)];rfl)
  have ac:(Ae (J1.getD i []=t.i))=false:=ac;refine R ?_;refine BL [44,1,2,43] ?_;refine Al (fun a ha=>?_)
  exact ⟨i+1,ha,⟨⟨ab,fun j hj=>by
   by_cases e:j=i;subst e;simpa using ac;exact ad.2 j O⟩,ae⟩,O⟩
  have ab:i=13:=by simp only [CK] at ab;omega
  refine AS fun _ ga _ g E=>?_;refine AC ?_;refine ⟨?_,g⟩;have h0:Co [] = .string ⟨#[]⟩:=rfl;unfold BF;simp only [hq,Cl,Cr,h1,h2,h3,h5,h6,h7,aa,ab,A8,A0]
  first
  | rfl
  | (rw [AV h6];rfl)
  | (rw [AV h7];rfl)
  | (rw [Mv aa];rfl)
  | (obtain ⟨e1,e2⟩:=MW ab aa (AV ac);rw [e1,e2];rfl)
  | (rw [MP h6 h7 (fun j hj=>ad.2 j O)];rfl)
 refine H8 ?_;have h0:Co [] = .string ⟨#[]⟩:=rfl;unfold BF;simp only [hq,Cl,Cr,h1,h2,h3,h5,A8,A0]
 first
 | rfl
 | (rw [AV h6];rfl)
 | (rw [AV h7];rfl)
 | (rw [Mv aa];rfl)
 | (obtain ⟨e1,e2⟩:=MW ab aa (AV ac);rw [e1,e2];rfl)
 | (rw [MP h6 h7 (fun j hj=>ad.2 j O)];rfl)
structure JA where
  name:List UInt8
  ty:Bu
def KA(f:JA):List Ak:=[Co f.name,.int .i64 f.ty.c,Co f.ty.name]
theorem Zx(f:JA):(KA f).length=3:=rfl
section
variable {α β:Type} (f:α→Option β)
def Hv:List α→Option (List β)
 | []=>some []
 | a::l=>match f a,Hv l with
  | some b,some r=>some (b::r)
  | _,_=>none
theorem cP:∀ (l:List α) (a:α),Hv f (l++[a])=match Hv f l,f a with
  | some r,some b=>some (r++[b])
  | _,_=>none
 | [],a=>by simp only [Hv,List.nil_append];cases f a <;> rfl
 | x::l,a=>by
  rw [List.cons_append,Hv,cP l a,Hv];cases f x <;> cases Hv f l <;> cases f a <;> rfl
theorem RV:∀ (l:List α) (a:α),a∈l→f a=none→Hv f l=none
 | x::l,a,h,hn=>by
  rw [Hv];rcases List.mem_cons.1 h with rfl|h;rw [hn];rw [RV l a h hn];cases f x <;> rfl
theorem RM:∀ (l:List α) (r:List β),Hv f l=some r→r.length=l.length
 | [],r,h=>by injection h with h;subst h;rfl
 | x::l,r,h=>by
  rw [Hv] at h
  cases h1:f x with
  | none=>rw [h1] at h;cases h
  | some b =>
   cases h2:Hv f l with
   | none=>rw [h1,h2] at h;cases h
   | some r'=>rw [h1,h2] at h;injection h with h;subst h;rw [FB,RM l r' h2];rfl
end
def Ob(t:Nd):Nd:=t.b.getD 0 EN
def GY(f:Nd):Option JA:=bif !Ae (f.c=3) || !Ae ((f.b.length:Int)=1) then none else bif (BF (Ob f)).2 then some ⟨f.i,(BF (Ob f)).1⟩ else none
def J3(name:List UInt8)(d:Nd):Bool:=!(!Ae (d.c=2) || !Ae (d.i=name))
def Gf(t:Nd)(name:List UInt8):List JA×Bool:=match t.b.find? (J3 name) with
 | none=>([],false)
 | some d=>match Hv GY d.b with
  | none=>([],false)
  | some l=>(l,true)
theorem aI{name:List UInt8}{l:List Nd}{i:Nat}(hi:i<l.length)(h1:∀ j,(hj:j<l.length)→j<i→J3 name l[j]=false)(h2:J3 name l[i]=true):l.find? (J3 name)=some l[i]:=by
 rw [Ka];exact ⟨h2,i,hi,rfl,fun j hj=>by rw [h1 j O hj];rfl⟩
theorem ZF{name:List UInt8}{l:List Nd}(h1:∀ j,(hj:j<l.length)→J3 name l[j]=false):l.find? (J3 name)=none:=by
 rw [J9];intro x hx;obtain ⟨j,hj,rfl⟩:=Gx hx;rw [h1 j hj];simp
def WS(r:List JA×Bool)(v:Ak)(w:Ad):Prop:=∃ l,v = .tuple #[l,.bool r.2]∧Le KA w r.1 l
theorem W7{w:Ad}{base:Nat}{s:Ak}{l:List JA}(h:w.ownsRow base 109 3 s l.length (l.flatMap KA)):Le KA w l s:=XZ h rfl
theorem YM{t:Nd}(h:t.b.length=1):∃ h0:0<t.b.length,Ob t=t.b[0]:=⟨O,by simp [Ob,CW,Bh (show 0<t.b.length by omega)]⟩
theorem XH{l:List Nd}{k:Nat}(hk:k<l.length){r:List JA}{b:JA}(h:Hv GY (l.take k)=some r)(hb:GY l[k]=some b):Hv GY (l.take (k+1))=some (r++[b]):=by
 rw [Ri hk,cP,h,hb]
theorem fQ{w:Ad}{base:Nat}{l:List JA}(f:JA){a:Option Addr}{c:Nat}(h:w.ownsRow base 109 3 (.slice a (l.length+1) c) (l.length+1) (l.flatMap KA++KA f)):w.ownsRow base 109 3 (.slice a (l++[f]).length c) (l++[f]).length ((l++[f]).flatMap KA):=by
 rw [List.flatMap_append,DF,Fe,List.flatMap_nil,List.append_nil];exact h
theorem vF(t:Nd)(name:List UInt8)(v:Ak)(D:Nat→Prop)(w:Ad)(hL:Laid w)(b8:10≤w.heap.size)(a8:M7 w)(hk:Bo w D t.b v)(hc:count t≤1000000):Bx Aj 145 #[BV t v,Co name] w fun r w'=>WS (Gf t name) r w'∧G w w':=by
 obtain ⟨p,c,rfl,br,bc⟩:=hk;have g:=G.refl w;have bq:=Ej t;refine Cj 65 [0,1] Tryz.func145 ?_;refine CN fun _ w2 _ _ g E=>?_;refine R ?_;refine GZ (fun (i:Nat) u1=>(i≤t.b.length∧∀ j,(hj:j<t.b.length)→j<i→J3 name t.b[j]=false)∧G w2 u1) [(1,True,_),(14,True,_),(15,True,_)] (fun (i:Nat)=>[(16,True,.int .i64 i)]) (fun (i:Nat)=>t.b.length-i) (0) ⟨⟨DV _,fun j _ hj=>absurd hj (IG j)⟩,G.refl _⟩ (K U (K U (K U (K U (Bm _))))) ?_;rintro i u1 ⟨an,aa⟩;have g:=g.trans aa;replace E:=E.a aa;refine Ao (Ay (G2 U U (Al (kq (Ao (CB U (fun h1=>?_) (fun h1=>?_)))))));have h1:i<t.b.length:=by simp only [BQ] at h1;omega
 obtain ⟨b,o,rfl,hD,xs,hR,hX⟩:=bc O;obtain ⟨p',c',hcell,aq⟩:=I9 hR hX h1;have b5:=J5 h1;have cb:=Ej t.b[i];refine CU (kq (Ao (DY (Ao (Ay (Hh AB U U O (CH A3 U U (hcell.a g) (A1 fun _ _ ga _ g E=>?_))))))));have a6:=ga.ge aa;have aa:=aa.trans (ga.g);refine AS fun a5 ga _ g E=>?_;replace aa:=CO aa ga O;refine Az (fun h2=>?_) fun h2=>?_;have h2:(!Ae (t.b[i].c=2) || !Ae (t.b[i].i=name))=true:=h2;refine R ?_;refine BL [16,1,14,15] ?_;refine Al (fun a ha=>?_)
 exact ⟨i+1,ha,⟨⟨h1,fun j ba hj=>by
  by_cases e:j=i;subst e;unfold J3;rw [h2];rfl;exact an.2 j ba O⟩,aa⟩,O⟩
 have h2:(!Ae (t.b[i].c=2) || !Ae (t.b[i].i=name))=false:=h2;have hf:=aI h1 an.2 (by unfold J3;rw [h2];rfl)
 have hN:Gf t name=match Hv GY t.b[i].b with
  | none=>([],false)
  | some l=>(l,true):=by unfold Gf;rw [hf]
 obtain ⟨p2,c2,hpe,a7,a4⟩:=aq;injection hpe with hpe _ bf;subst hpe bf;have b6:=E.Q.lt;have b3:=E.E.lt;refine R ?_;refine GZ (fun (x:Nat×Option Addr×Nat×List JA) u2=>match x with|⟨k,a,ca,l⟩=>(k≤t.b[i].b.length∧Hv GY (t.b[i].b.take k)=some l∧u2.ownsRow a5.heap.size 109 3 (.slice a l.length ca) l.length (l.flatMap KA))∧G a5 u2) [(1,True,_),(14,True,_),(15,True,_),(16,True,_),(30,True,_),(31,True,_)] (fun (x:Nat×Option Addr×Nat×List JA)=>match x with|⟨k,a,ca,l⟩=>[(8,True,.slice a l.length ca),(32,True,.int .i64 k)]) (fun (x:Nat×Option Addr×Nat×List JA)=>match x with|⟨k,a,ca,l⟩=>t.b[i].b.length-k) ((0,none,0,[])) ⟨⟨DV _,rfl,JX _ _ _ _⟩,G.refl _⟩ (K U (K U (K U (K U (K U (K U (K U (K U (Bm _))))))))) ?_;rintro ⟨k,a,ca,l⟩ u2 ⟨bo,ab⟩;have g:=g.trans ab;have aa:=aa.trans ab;replace E:=E.a ab;obtain ⟨hk,hm,hO⟩:=bo;have bk:=RM GY _ _ hm;rw [E1] at bk;refine Ao (Ay (G2 U U (Al (kq (Ao (CB U (fun h3=>?_) (fun h3=>?_)))))));have h3:k<t.b[i].b.length:=by simp only [BQ] at h3;omega
 obtain ⟨b2,o2,rfl,b7,bv,a9,bg⟩:=a4 O;obtain ⟨p3,c3,aj,al⟩:=I9 a9 bg h3;have bs:=J5 h3;refine CU (kq (Ao (DY (Ao (Ay (Hh AB U U O (CH A3 U U (aj.a g) (?_))))))));have ao:=fun k hk=>(hO.lt k hk).2;refine A1 fun bp _ ad _ g E=>?_;have ay:=ad.ge aa;have a0:=ad.ge ab;have aa:=aa.trans (ad.g);have ab:=ab.trans (ad.g);have hO:=D7 hO (ad.g);have ar:(Ez a l.length ca).ownBlock≠some bp:=fun h=>by have:=ao _ h;have:=ad.j;omega
 refine AS fun _ ga _ g E=>?_;replace aa:=CO aa ga O;replace ab:=CO ab ga O;have hO:=Df hO ga (.inr ar);refine Az (fun h4=>?_) fun h4=>?_;have h4:(!Ae (t.b[i].b[k].c=3) || !Ae ((t.b[i].b[k].b.length:Int)=1))=true:=h4;have ae:=RV GY _ _ (GB h3) (by unfold GY;rw [h4];rfl);refine Ao (Ay (BO U (BO U (Al (kq (DZ (PU (ts:=[4,5]) (vs:=[_,_]) U U U ?_)))))));rw [hN,ae];exact ⟨⟨_,rfl,PC _⟩,g⟩;have h4:(!Ae (t.b[i].b[k].c=3) || !Ae ((t.b[i].b[k].b.length:Int)=1))=false:=h4
 have bm:t.b[i].b[k].b.length=1:=by
  simp only [EG,Bool.not_eq_false',BQ] at h4;omega
 obtain ⟨av,ek⟩:=YM bm;obtain ⟨p4,c4,af,_,aw⟩:=al;injection af with af _ az;subst af az;obtain ⟨b4,o4,rfl,b1,bw,bh,bi⟩:=aw O;obtain ⟨p5,c5,ai,_⟩:=I9 bh bi av;have bt:=Ej t.b[i].b[k].b[0];have bu:=J5 av;refine CU (kq (Ao (Ay (AF AW U (AL Bj U (E.E.j U) (AG U (fun _=>JH AB (H U) Bl (fun _=>by show (0:Int)≤0∧(0:Int)<((t.b[i].b[k].b.length:Nat):Int);omega)) (CH A3 U U (ai.a g) (F1 U (BK WX Cf (CF U CT) U) (ZE _ _ _ _ (hL.a g) Dj (a8.a g) O) (fun b0 ag=>?_)))))))));have g:=g.trans ag;have aa:=aa.trans (ag);have ab:=ab.trans (ag);replace E:=E.a ag;have hO:=D7 hO (ag);refine R ?_;have ap:=fun k hk=>(hO.lt k hk).2;refine A1 fun bn _ ac _ g E=>?_;have au:=ac.ge aa;have ax:=ac.ge ab;have aa:=aa.trans (ac.g);have ab:=ab.trans (ac.g);have hO:=D7 hO (ac.g);have a1:(Ez a l.length ca).ownBlock≠some bn:=fun h=>by have:=ap _ h;have:=ac.j;omega
 refine AS fun _ ga _ g E=>?_;replace aa:=CO aa ga O;replace ab:=CO ab ga O;have hO:=Df hO ga (.inr a1);refine Az (fun h5=>?_) fun h5=>?_;have h5:(!(BF t.b[i].b[k].b[0]).2)=true:=h5;have ae:=RV GY _ _ (GB h3) (by unfold GY;rw [h4,ek];simp only [Bool.not_eq_true'] at h5;rw [h5];rfl);refine Ao (Ay (BO U (BO U (Al (kq (DZ (PU (ts:=[4,5]) (vs:=[_,_]) U U U ?_)))))));rw [hN,ae];exact ⟨⟨_,rfl,PC _⟩,g⟩;have h5:(!(BF t.b[i].b[k].b[0]).2)=false:=h5;have am:GY t.b[i].b[k]=some ⟨t.b[i].b[k].i,(BF t.b[i].b[k].b[0]).1⟩:=by unfold GY;rw [h4,ek];simp only [Bool.not_eq_false'] at h5;rw [h5];rfl
 refine CU (kq (Ay (As U (AF E6 U (AL DU U (E.Q.j U) (CH Ci U U E.E.row (Gi Py VY (A5 U (A5 U Cz)) U U (Ch fun _ _ ga _ g E=>?_))))))));have a3:=ga.ge aa;have a2:=ga.ge ab;have ab:=ab.trans (ga.g);have hO:=D7 hO (ga.g);refine ID U Ps Py U Cb (H U) hO (H U) U E.E.row U (by simp only [maxLen];omega) O (by have:=ab.size;omega) ?_;intro a' c' b9 bj ah bz;have ak:=fun k hk=>(hO.lt k hk).1;have g:=L7 g ah (fun k hk=>by have:=ak k hk;omega);replace ab:=L7 ab ah ak;replace E:=E.sel [false,false,false,true,true];replace E:=E.A ah (Ih.2 ⟨((fun he=>by have:=ak _ he.symm;omega)),Ih.2 ⟨((fun he=>by have:=ak _ he.symm;omega)),List.forall_mem_nil _⟩⟩);have be:=fQ ⟨t.b[i].b[k].i,(BF t.b[i].b[k].b[0]).1⟩ bj;refine R ?_;refine BL [8,32,1,14,15,16,30,31] ?_;refine Al (fun a ha=>?_);refine ⟨(k+1,a',c',l++[⟨t.b[i].b[k].i,(BF t.b[i].b[k].b[0]).1⟩]),?_,⟨⟨h3,XH h3 hm am,be⟩,ab⟩,by show t.b[i].b.length-(k+1)<t.b[i].b.length-k;omega⟩;simpa using ha;have h3:k=t.b[i].b.length:=by simp only [CK] at h3;omega
 subst h3;rw [List.take_length] at hm;refine AC ?_;rw [hN,hm];exact ⟨⟨_,rfl,W7 hO⟩,g⟩;have h1:i=t.b.length:=by simp only [CK] at h1;omega
 subst h1;refine AC ?_;have hN:Gf t name=([],false):=by unfold Gf;rw [ZF fun j hj=>an.2 j hj O]
 rw [hN];exact ⟨⟨_,rfl,PC _⟩,g⟩
def Jk:List (List UInt8):=[[43],[45],[42],[47],[37]]
def Jc:List (List UInt8):=[[60],[60,61],[62],[62,61]]
def I8:List (List UInt8):=[[61,61],[33,61]]
def Jh:List (List UInt8):=[[38,38],[124,124]]
def Gm(op:List UInt8)(a b:Bu):Bu×Bool :=
 bif Er Jk op then bif BP a tInt&&BP b tInt then (tInt,true) else (AA,false)
 else bif Er Jc op then bif BP a tInt&&BP b tInt then (tBool,true) else (AA,false)
 else bif Er I8 op then bif Nt a b then (tBool,true) else (AA,false)
 else bif Er Jh op then bif BP a tBool&&BP b tBool then (tBool,true) else (AA,false)
 else (AA,false)
theorem We(a b y:Bu)(p q:Nat)(w:Ad)(hp:Av w p 24 (Ea a))(hq:Av w q 24 (Ea b)):Bx Aj 146 #[D3 y,.pointer (some ⟨p,0,none⟩),.pointer (some ⟨q,0,none⟩)] w fun v w'=>v = .bool (BP a y&&BP b y)∧G w w':=by
 have g:=G.refl w;refine Cj 13 [0,1,2] Tryz.func146 ?_;refine Ao (Ay (CN fun _ _ _ _ g E=>?_));refine BO U (Al (kq (Ao (Ay (CH Ci U U (by first|exact (hp.a g).row|exact (hq.a g).row|exact E.E.j U|exact E.E.row) (CH Ci U U E.E.row (AG U (fun _=>I1 Ie (H U) (H U) U) (As U (BU U U U (A2 Ci (H U) U (fun _=>by first|exact (hp.a g).row|exact (hq.a g).row|exact E.E.j U|exact E.E.row)) (BU U U U (A2 Ci (H U) U (fun _=>E.E.row)) (AD U U U (fun _=>I1 Ie (Am U id) (Am U id) U) (AG U (fun _=>ES (H U) (Am U id)) (BO U (Al (kq (DZ (FJ U U ?_)))))))))))))))));exact ⟨rfl,g⟩
theorem qR(op:List UInt8)(a b:Bu)(w:Ad)(hL:Laid w)(ag:10≤w.heap.size):Bx Aj 137 #[Co op,D3 a,D3 b] w fun v w'=>v = .tuple #[D3 (Gm op a b).1,.bool (Gm op a b).2]∧G w w':=by
 have g:=G.refl w;refine Cj 49 [0,1,2] Tryz.func137 ?_;refine Ao (Ay (CN fun _ _ _ _ g E=>?_));refine LU fun _ _ _ _ g E=>?_;refine A1 fun _ _ _ _ g E=>?_;refine BO U (Al (kq (Ao (Ay (Gi Fw HW (A5 U Cz) U U (Gi Fw HW (A5 U Cz) U U (A1 fun _ _ _ _ g E=>?_)))))));refine A1 fun _ _ _ _ g E=>?_;refine AS fun _ _ _ g E=>?_;refine AS fun _ _ _ g E=>?_;refine Al (kq (Ao (Ay (AG U (fun _=>Pl (CT) (CF U (CF U CT))) (BO U (Al (kq (Ao (Ao (Ay (As U (Al (kq (DY (Ao (Ao (Ay (Mb U U (?_)))))))))))))))))));refine BO U (Al (kq (?_)));refine' Rr [(4,_,_),(5,_,_),(6,_,_),(7,_,_),(8,_,_),(9,_,_),(10,_,_),(14,_,_)] (K U (K U (K U (K U (K U (K U (K U (K U (K U (Bm _)))))))))) U (fun au=>?y1) (kq ?n1)
 case y1 =>
  refine R ?_;refine' AZ [4,5,6,7,8,9,10,14] (fun aq=>?y2) AX
  case y2 =>
   refine R ?_;refine' AZ [4,5,6,7,8,9,10,14] (fun ag=>?y3) AX
   case y3 =>
    refine R ?_;refine' AZ [4,5,6,7,8,9,10,14] (fun ap=>?y4) AX
    case y4 =>
     refine R ?_;refine BL [15,4,5,6,7,8,9,10,14] ?_;exact Al AX
 case n1 =>
  refine Az (fun h5=>?_) fun h5=>?_;(try simp only [BJ] at h5);refine R ?_;refine F1 U (BK Ws (H U) (CF U CT) U) (We a b tInt _ _ _ E.g4 E.g3) (Do fun aw ao g E=>?_);refine Az (fun h6=>?_) fun h6=>?_;(try simp only [BJ] at h6);refine H8 ?_;unfold Gm;simp only [Er,Jk,Jc,I8,Jh,h5,h6,A8,A0];rfl;refine H8 ?_;unfold Gm;simp only [Er,Jk,Jc,I8,Jh,h5,h6,A8,A0];rfl;refine R ?_;refine' AZ [4,5,6,7,8,9,10,14] (fun al=>?y7) (kq ?n7)
  case y7 =>
   refine R ?_;refine' AZ [4,5,6,7,8,9,10,14] (fun aj=>?y8) AX
   case y8 =>
    refine R ?_;refine' AZ [4,5,6,7,8,9,10,14] (fun av=>?y9) AX
    case y9 =>
     refine R ?_;refine BL [25,4,5,6,7,8,9,10,14] ?_;exact Al AX
  case n7 =>
   refine Az (fun aa=>?_) fun aa=>?_;(try simp only [BJ] at aa);refine R ?_;refine F1 U (BK Ws (H U) (CF U CT) U) (We a b tInt _ _ _ E.g4 E.g3) (Do fun an ak g E=>?_);refine Az (fun ae=>?_) fun ae=>?_;(try simp only [BJ] at ae);refine H8 ?_;unfold Gm;simp only [Er,Jk,Jc,I8,Jh,h5,aa,ae,A8,A0];rfl;refine H8 ?_;unfold Gm;simp only [Er,Jk,Jc,I8,Jh,h5,aa,ae,A8,A0];rfl;refine R ?_;refine' AZ [4,5,6,7,9,10,14] (fun ah=>?y12) (kq ?n12)
   case y12 =>
    refine R ?_;refine BL [34,4,5,6,7,9,10,14] ?_;exact Al AX
   case n12 =>
    refine Az (fun ab=>?_) fun ab=>?_;(try simp only [BJ] at ab);refine R ?_;refine DA (uV _ _ _ (hL.a g) Dj) (Do fun ar ax g E=>?_);refine Az (fun af=>?_) fun af=>?_;(try simp only [BJ] at af);refine H8 ?_;unfold Gm;simp only [Er,Jk,Jc,I8,Jh,h5,aa,ab,af,A8,A0];rfl;refine H8 ?_;unfold Gm;simp only [Er,Jk,Jc,I8,Jh,h5,aa,ab,af,A8,A0];rfl;refine R ?_;refine' AZ [6,7,9,10] (fun ai=>?y15) (kq ?n15)
    case y15 =>
     refine R ?_;refine BL [41,6,7,9,10] ?_;exact Al AX
    case n15 =>
     refine Az (fun ac=>?_) fun ac=>?_;(try simp only [BJ] at ac);refine R ?_;refine F1 U (BK Ws (H U) (CF U CT) U) (We a b tBool _ _ _ E.g4 E.g3) (Do fun ay am g E=>?_);refine Az (fun ad=>?_) fun ad=>?_;(try simp only [BJ] at ad);refine H8 ?_;unfold Gm;simp only [Er,Jk,Jc,I8,Jh,h5,aa,ab,ac,ad,A8,A0];rfl;refine H8 ?_;unfold Gm;simp only [Er,Jk,Jc,I8,Jh,h5,aa,ab,ac,ad,A8,A0];rfl;refine H8 ?_;unfold Gm;simp only [Er,Jk,Jc,I8,Jh,h5,aa,ab,ac,A8,A0];rfl
theorem yO(op:List UInt8)(a b:Bu)(w:Ad):Bx Aj 128 #[Co op,D3 a,D3 b] w fun v w'=>v = .tuple #[D3 (Gm op a b).1,.bool (Gm op a b).2]∧G w w':=by
 have g:=G.refl w;refine Cj 62 [0,1,2] Tryz.func128 ?_;refine CN fun _ _ _ _ g E=>?_;refine LU fun _ _ _ _ g E=>?_;refine A1 fun _ _ _ _ g E=>?_;refine A1 fun _ _ _ _ g E=>?_;refine A1 fun _ _ _ _ g E=>?_;refine AS fun _ _ _ g E=>?_;refine AS fun _ _ _ g E=>?_;refine R ?_;refine' AZ [4,5,6,7,8,9,12] (fun ao=>?y1) (kq ?n1)
 case y1 =>
  refine R ?_;refine' AZ [4,5,6,7,8,9,12] (fun am=>?y2) AX
  case y2 =>
   refine R ?_;refine' AZ [4,5,6,7,8,9,12] (fun aq=>?y3) AX
   case y3 =>
    refine R ?_;refine' AZ [4,5,6,7,8,9,12] (fun al=>?y4) AX
    case y4 =>
     refine R ?_;refine BL [13,4,5,6,7,8,9,12] ?_;exact Al AX
 case n1 =>
  refine Az (fun h5=>?_) fun h5=>?_;(try simp only [BJ] at h5);refine Az (fun h6=>?_) fun h6=>?_;have h6:(BP a tInt&&BP b tInt)=true:=h6;refine H8 ?_;unfold Gm;simp only [Er,Jk,Jc,I8,Jh,h5,h6,A8,A0];rfl;have h6:(BP a tInt&&BP b tInt)=false:=h6;refine H8 ?_;unfold Gm;simp only [Er,Jk,Jc,I8,Jh,h5,h6,A8,A0];rfl;refine R ?_;refine' AZ [4,5,6,7,8,9,12] (fun ak=>?y7) (kq ?n7)
  case y7 =>
   refine R ?_;refine' AZ [4,5,6,7,8,9,12] (fun aj=>?y8) AX
   case y8 =>
    refine R ?_;refine' AZ [4,5,6,7,8,9,12] (fun ap=>?y9) AX
    case y9 =>
     refine R ?_;refine BL [28,4,5,6,7,8,9,12] ?_;exact Al AX
  case n7 =>
   refine Az (fun aa=>?_) fun aa=>?_;(try simp only [BJ] at aa);refine Az (fun ac=>?_) fun ac=>?_;have ac:(BP a tInt&&BP b tInt)=true:=ac;refine H8 ?_;unfold Gm;simp only [Er,Jk,Jc,I8,Jh,h5,aa,ac,A8,A0];rfl;have ac:(BP a tInt&&BP b tInt)=false:=ac;refine H8 ?_;unfold Gm;simp only [Er,Jk,Jc,I8,Jh,h5,aa,ac,A8,A0];rfl;refine R ?_;refine' AZ [4,5,6,7,9,12] (fun ag=>?y12) (kq ?n12)
   case y12 =>
    refine R ?_;refine BL [42,4,5,6,7,9,12] ?_;exact Al AX
   case n12 =>
    refine Az (fun ad=>?_) fun ad=>?_;(try simp only [BJ] at ad);refine R ?_;refine DA (sE _ _ _) (Do fun ai an g E=>?_);refine Az (fun af=>?_) fun af=>?_;(try simp only [BJ] at af);refine H8 ?_;unfold Gm;simp only [Er,Jk,Jc,I8,Jh,h5,aa,ad,af,A8,A0];rfl;refine H8 ?_;unfold Gm;simp only [Er,Jk,Jc,I8,Jh,h5,aa,ad,af,A8,A0];rfl;refine R ?_;refine' AZ [4,5,6,7,9] (fun ah=>?y15) (kq ?n15)
    case y15 =>
     refine R ?_;refine BL [49,4,5,6,7,9] ?_;exact Al AX
    case n15 =>
     refine Az (fun ae=>?_) fun ae=>?_;(try simp only [BJ] at ae);refine Az (fun ab=>?_) fun ab=>?_;have ab:(BP a tBool&&BP b tBool)=true:=ab;refine H8 ?_;unfold Gm;simp only [Er,Jk,Jc,I8,Jh,h5,aa,ad,ae,ab,A8,A0];rfl;have ab:(BP a tBool&&BP b tBool)=false:=ab;refine H8 ?_;unfold Gm;simp only [Er,Jk,Jc,I8,Jh,h5,aa,ad,ae,ab,A8,A0];rfl;refine H8 ?_;unfold Gm;simp only [Er,Jk,Jc,I8,Jh,h5,aa,ad,ae,A8,A0];rfl
theorem P5(y:Bu):(Ea y).length=2:=rfl
def Hg(s:List UInt8):Bool:=Ae (s=[76,111,99,107]) || Ae (s=[85,110,108,111,99,107])
def Dw(y:Bu)(s:List UInt8):List Bu×Bu×Bool :=
 bif !Km y then ([],AA,false)
 else bif Ae (y.c=8) then ([],AA,Hg s)
 else bif Ae (y.c=9) then ([],AA,(Hg s || Ae (s=[82,76,111,99,107])) || Ae (s=[82,85,110,108,111,99,107]))
 else bif Ae (y.c=10) then (bif Ae (s=[65,100,100]) then ([tInt],AA,true) else ([],AA,Ae (s=[68,111,110,101]) || Ae (s=[87,97,105,116])))
 else bif Ae (y.c=11) then (bif Ae (s=[68,111]) then ([tFunc],AA,true) else ([],AA,false))
 else bif Ae (y.c=12) then (bif Ae (s=[76,111,97,100]) then ([],tInt,true) else bif Ae (s=[83,116,111,114,101]) then ([tInt],AA,true) else bif Ae (s=[65,100,100]) then ([tInt],tInt,true) else bif Ae (s=[67,111,109,112,97,114,101,65,110,100,83,119,97,112]) then ([tInt,tInt],tBool,true) else ([],AA,false))
 else ([],AA,false)
def Ms(P:BH)(q:Int→Bool)(v:Ak)(w:Ad):Prop:=∃ f fs cs,v = .func (.func f) fs cs∧Bt P f=true∧∀ (k:Int) (w':Ad),G w w'→Bx P f (fs ++ #[.int .i64 k]++cs) w' fun r w''=>r = .bool (q k)∧G w' w''
theorem Ms.a{P:BH}{q:Int→Bool}{v:Ak}{w w':Ad}(h:Ms P q v w)(g:G w w'):Ms P q v w':=by
 obtain ⟨f,fs,cs,rfl,h1,h2⟩:=h;exact ⟨f,fs,cs,rfl,h1,fun k aa g'=>h2 k aa (g.trans g')⟩
theorem Kx{P:BH}{q:Int→Bool}{f:Nat}(aa:Bt P f=true)(h:∀ (k:Int) (w:Ad),Bx P f #[.int .i64 k] w fun r w'=>r = .bool (q k)∧G w w')(w:Ad):Ms P q (.func (.func f) #[] #[]) w :=
 ⟨f,#[],#[],rfl,aa,fun k w' _=>by simpa using h k w'⟩
section
variable {P:BH} {Z:List Bd→Act→Ad→Prop} {ops:List Oper} {cl:List Nat} {lv:List Bool} {W0:Ad} {n:Nat} {H':Act→Ad→Prop} {k:Nat} {rest:List Oper} {σ:List Ce} {w:Ad} {d:Nat} {ty:Aw} {pos:String} {after:Array Edge}
theorem mQ{g t:Nat}{want b:Bool}{c0:Prop}{op:Op}{v:Ak}{w':Ad}(hb:(!Ap (Bw cl k) 0 && !Ap (Bw cl k) 3&&CQ d n)=true)
 (ab:((ops.toArray[g]?).bind (·.dst))=some t) (aa:Ey σ t=some (c0,.bool b)) (hr:VA P n σ (c0∧b=want) w op ty v w') (hg:G w w')
 (h:(c0∧b=want)→Bv P Z ops cl lv W0 n H' (k+1) rest ((d,c0∧b=want,v) :: σ) w') (h':¬ (c0∧b=want)→Bv P Z ops cl lv W0 n H' (k+1) rest ((d,c0∧b=want,v) :: σ) w) :
 Bv P Z ops cl lv W0 n H' k (⟨some d,op,ty,pos,after,some (g,want)⟩::rest) σ w:=.mk fun hl a ha=>by
 obtain ⟨h0,h1⟩:=J8 hl;simp only [Dv,Bool.not_eq_true'] at hb;rw [FB,List.range'_succ];have hw:=Nk (op:=op) (ty:=ty) (pos:=pos) (after:=after) (want:=want) (d:=some d) ab aa ha;refine ⟨_,h0,?_⟩;rw [CJ (fun he=>by rcases he with he|he <;> rw [he] at hb <;> simp at hb)]
 by_cases hh:c0∧b=want;rw [CP (hw.2 hh)];exact .inl ⟨v,w',hr _ _ _ _ a ha hh,fun _=>hg,h hh h1 _ (ha.put hb.2 (fun _=>rfl) (fun hn=>absurd hh hn))⟩;rw [CJ (fun hq=>hh (hw.1 hq))];exact h' hh h1 _ (ha.put hb.2 (fun hq=>absurd hq hh) (fun _=>rfl))
theorem S6{g t0:Nat}{want bb:Bool}{c0:Prop}{t e z ad m:Nat}{ps:Array (Nat×A7)}{vs:List (Nat×Ak)}{zv:Ak}(l:List Ak)(hb:(!Ap (Bw cl k) 0 && !Ap (Bw cl k) 3&&CQ d n)=true)(ac:((ops.toArray[g]?).bind (·.dst))=some t0)(ag:Ey σ t0=some (c0,.bool bb))
 (ht:FQ P t=some (e,z,ad)) (hz:Gc P e=some zv)
 (hx:MF n σ (c0∧bb=want) ps vs) (hm:(Nat.ble (m*z) 16777216 && !Ap (m*z) 0&&Ap vs.length m)=true) (hf:Qm z 0 vs=some l)
 (h:∀ b w1,G w w1→(c0∧bb=want→Av w1 b e l)→Bv P Z ops cl lv W0 n H' (k+1) rest ((d,c0∧bb=want,.slice (some ⟨b,0,none⟩) m m) :: σ) w1) :
 Bv P Z ops cl lv W0 n H' k (⟨some d,.buildSlice t m ps,ty,pos,after,some (g,want)⟩::rest) σ w:=by
 obtain ⟨hu,i,hi,aj,_⟩:=JV ht;obtain ⟨i',ak,ab⟩:=Ox hz;obtain rfl:i=i':=EM (hi.symm.trans ak);simp only [Dv,Bool.not_eq_true'] at hm;have ah:¬ (m*z>2 ^ 24):=by have:=Nat.le_of_ble_eq_true hm.1.1;omega
 have af:¬ (m*z=0):=by intro he;rw [he] at hm;simp at hm
 have ai:=FP hm.2
 have aa:Instr.fill (fun i=>some (i*z,z)) ((Array.range (m*z)).map (zv.cells[· % zv.cells.size]!)) vs=some l.toArray:=by
  have h1:=Wl z vs 0 [] ((Array.range (m*z)).map (zv.cells[· % zv.cells.size]!)).toList l hf BI (by simp [ai]) BI;have:=SQ _ _ _ _ h1;rwa [Array.toArray_toList] at this
 refine mQ hb ac ag (w':=w.alloc (.cells l.toArray e)) (v:=.slice (some ⟨w.heap.size,0,none⟩) m m) (fun d pos after g a ha hc=>?_) (MJ w e l).g (fun hc=>h _ _ (MJ w e l).g (fun _=>(MJ w e l).p)) (fun hc=>h _ _ (G.refl w) (fun hq=>absurd hq hc));have ae:=hx a ha hc;simp only [execOp,Instr.buildSlice,Sem.run_bind,run_underlying hu,Ij,sizeOf,typeInfo,run_program,hi,Sem.run_pure,aj,CJ ah,CJ af,zeroValue,ab];rw [ae,aa];simp [newRow]
end
section
variable {P:BH} {n:Nat} {σ:List Ce} {c:Prop} {wb:Ad} {ty:Aw} {v:Ak}
theorem fS{t e z ab:Nat}{x y:A7}{o:Option Addr}{m q:Nat}{k:IntKind}(ht:FQ P t=some (e,z,ab))(h:Bz n σ c x (.slice o m q))(h':Bz n σ c y (.int k 0)) :
 DB P n σ c wb (.slice t x (some y) none none) ty (.slice o m q):=.mk fun d pos after gd a ha hc w1 _=>by
 obtain ⟨hu,ac,aa,hz,_⟩:=JV ht;have e2:o.map (fun b=>Addr.add b 0)=o:=by cases o <;> simp [Addr.add]
 simp only [execOp,h a ha hc,h' a ha hc,Instr.sliceAt,Option.map_some,Option.map_none,Sem.run_bind,run_underlying hu,Ij];simp [Instr.slice,run_underlying hu,Instr.sliceBounds,Instr.sliceBound,asIntOf,Pj aa,e2]
end
def Il(k:Int):Bool:=Ct [7,8] k
def FA(k:Int):Bool:=Ct [28,29,30,31,32,33,35,36,37,27,34,24,25,26,38] k
def MD(k:Int):Bool:=Ct [6,10,11,12,13,14,15,16,17,21,18,19,20,22] k
def CX(l:List Int)(k:Int):Bool:=Ae (k∈l)
theorem kU(s:List UInt8)(w:Ad)(hL:Laid w)(aa:10≤w.heap.size):Bx Aj 108 #[Co s] w fun v w'=>v = .bool (FE s)∧G w w':=by
 have g:=G.refl w;refine Cj 34 [0] Tryz.func108 ?_;refine R ?_;refine AK (cW s _ (hL.a g) Dj) ?_;rintro v8 w8 ⟨l,rfl,hT,g8⟩;obtain ⟨a,c,rfl,hr⟩:=ZS hT;refine ER g8 fun g=>?_;refine R ?_;refine AD U U U (fun _=>CS Mg (Am U id) Bl (fun hc=>by have:=AV (AN.1 hc.2).2;omega) (fun hc=>(hr (by have:=AV (AN.1 hc.2).2;omega)).1)) ?_;refine R ?_;refine BU U U U (AU Cd (Am U id) (fun hc=>(hr (by have:=AV (AN.1 hc.2).2;omega)).2 0 _ U)) ?_;refine R ?_;refine AD U U U (fun _=>CS Mg (Am U id) Bl (fun hc=>by have:=AV (AN.1 (AN.1 hc.2).1).2;omega) (fun hc=>(hr (by have:=AV (AN.1 (AN.1 hc.2).1).2;omega)).1)) ?_;refine R ?_;refine BU U U U (AU DU (Am U id) (fun hc=>(hr (by have:=AV (AN.1 (AN.1 hc.2).1).2;omega)).2 1 _ U)) ?_;refine Cw ?_;rw [← Yp];rfl
theorem RK(k:Int)(w:Ad):Bx Aj 112 #[.int .i64 k] w fun v w'=>v = .bool (Il k)∧G w w':=by
 have g:=G.refl w;refine Cj 9 [0] Tryz.func112 ?_;refine AC ?_;exact ⟨rfl,g⟩
theorem Oy(k:Int)(w:Ad):Bx Aj 114 #[.int .i64 k] w fun v w'=>v = .bool (FA k)∧G w w':=by
 have g:=G.refl w;refine Cj 20 [0] Tryz.func114 ?_;refine R ?_;refine' AZ [2] (fun ak=>?y1) (kq ?n1)
 case y1 =>
  refine R ?_;refine' AZ [2] (fun aj=>?y2) AX
  case y2 =>
   refine R ?_;refine' AZ [2] (fun ao=>?y3) AX
   case y3 =>
    refine R ?_;refine' AZ [2] (fun ai=>?y4) AX
    case y4 =>
     refine R ?_;refine' AZ [2] (fun am=>?y5) AX
     case y5 =>
      refine R ?_;refine' AZ [2] (fun an=>?y6) AX
      case y6 =>
       refine R ?_;refine' AZ [2] (fun ah=>?y7) AX
       case y7 =>
        refine R ?_;refine' AZ [2] (fun ag=>?y8) AX
        case y8 =>
         refine R ?_;refine' AZ [2] (fun al=>?y9) AX
         case y9 =>
          refine R ?_;refine' AZ [2] (fun ad=>?y10) AX
          case y10 =>
           refine R ?_;refine' AZ [2] (fun ae=>?y11) AX
           case y11 =>
            refine R ?_;refine' AZ [2] (fun af=>?y12) AX
            case y12 =>
             refine R ?_;refine' AZ [2] (fun ab=>?y13) AX
             case y13 =>
              refine R ?_;refine' AZ [2] (fun ac=>?y14) AX
              case y14 =>
               refine R ?_;refine BL [4,2] ?_;exact Al AX
 case n1 =>
  refine Az (fun aa=>?_) fun aa=>?_;(try simp only [BJ] at aa);refine Cw ?_;simp only [FA,Ct];exact (aa).symm;refine Cw ?_;simp only [FA,Ct];exact (aa).symm
theorem vP(k:Int)(w:Ad):Bx Aj 115 #[.int .i64 k] w fun v w'=>v = .bool (MD k)∧G w w':=by
 have g:=G.refl w;refine Cj 19 [0] Tryz.func115 ?_;refine R ?_;refine' AZ [2] (fun an=>?y1) (kq ?n1)
 case y1 =>
  refine R ?_;refine' AZ [2] (fun am=>?y2) AX
  case y2 =>
   refine R ?_;refine' AZ [2] (fun ak=>?y3) AX
   case y3 =>
    refine R ?_;refine' AZ [2] (fun al=>?y4) AX
    case y4 =>
     refine R ?_;refine' AZ [2] (fun ai=>?y5) AX
     case y5 =>
      refine R ?_;refine' AZ [2] (fun aj=>?y6) AX
      case y6 =>
       refine R ?_;refine' AZ [2] (fun ag=>?y7) AX
       case y7 =>
        refine R ?_;refine' AZ [2] (fun af=>?y8) AX
        case y8 =>
         refine R ?_;refine' AZ [2] (fun ah=>?y9) AX
         case y9 =>
          refine R ?_;refine' AZ [2] (fun ab=>?y10) AX
          case y10 =>
           refine R ?_;refine' AZ [2] (fun ae=>?y11) AX
           case y11 =>
            refine R ?_;refine' AZ [2] (fun ad=>?y12) AX
            case y12 =>
             refine R ?_;refine' AZ [2] (fun ac=>?y13) AX
             case y13 =>
              refine R ?_;refine BL [4,2] ?_;exact Al AX
 case n1 =>
  refine Az (fun aa=>?_) fun aa=>?_;(try simp only [BJ] at aa);refine Cw ?_;simp only [MD,Ct];exact (aa).symm;refine Cw ?_;simp only [MD,Ct];exact (aa).symm
theorem rM(l:List Int)(b:Nat)(p:Option Addr)(c:Nat)(k:Int)(w:Ad)(hB:Av w b 44 [.slice p l.length c])(hp:0<l.length→∃ b o,p=some ⟨b,o,none⟩∧Cv w b o (l.map (Value.int .i64)))(hl:l.length≤1000) :
 Bx Aj 130 #[.int .i64 k,.pointer (some ⟨b,0,none⟩)] w fun v w'=>v = .bool (CX l k)∧G w w':=by
 have g:=G.refl w;refine Cj 16 [0,1] Tryz.func130 ?_;refine R ?_;refine GZ (fun (i:Nat) u1=>(i≤l.length∧∀ j,(h:j<l.length)→j<i→l[j]≠k)∧G w u1) [(0,True,_),(6,True,_),(7,True,_)] (fun (i:Nat)=>[(8,True,.int .i64 i)]) (fun (i:Nat)=>l.length-i) (0) ⟨⟨DV _,fun j _ hj=>absurd hj (IG j)⟩,G.refl _⟩ (K U (K U (K U (K U (Bm _))))) ?_;rintro i u1 ⟨aa,ab⟩;have g:=g.trans ab;refine Ao (Ay (G2 U U (Al (kq (Ao (CB U (fun h1=>?_) (fun h1=>?_)))))));have h1:i<l.length:=by simp only [BQ] at h1;omega
 obtain ⟨b2,o2,rfl,hR⟩:=hp O;have hv:(l.map (Value.int .i64))[i*1]? = some (.int .i64 l[i]):=by simp [h1]
 refine CU (kq (Ao (DY (Ao (Ay (Hh GR U U O (AL Cd U ((hR.a g) _ _ hv) (BO U (Al (kq (Ao (Ay (As U (As U (FM U U (Al (kq (CB U (fun h2=>?_) (fun h2=>?_)))))))))))))))))));simp only [BQ] at h2;refine Cw ?_;rw [CX,eq_comm,BQ,← h2];exact GB h1;simp only [CK] at h2;refine R ?_;refine BL [8,0,6,7] ?_;refine Al (fun a ha=>?_);refine ⟨i+1,ha,⟨⟨h1,fun j h hj=>?_⟩,ab⟩,O⟩;by_cases e:j=i;subst e;exact h2;exact aa.2 j h O;refine Cw ?_;rw [CX,eq_comm,CK];intro hm;obtain ⟨j,hj,e⟩:=Gx hm;simp only [CK] at h1;exact aa.2 j hj O e
theorem L6(l:List Int)(b o c:Nat)(w:Ad)(hR:Cv w b o (l.map (Value.int .i64)))(hl:l.length≤1000):Bx Aj 109 #[.slice (some ⟨b,o,none⟩) l.length c] w fun v w'=>Ms Aj (CX l) v w'∧G w w':=by
 have g:=G.refl w;refine Cj 4 [0] Tryz.func109 ?_;refine Ao (Ay (CN fun _ _ _ _ g E=>?_));refine BO U (Al (kq (Ao (Ay (AG U (fun _=>Pl (CT) (CF U CT)) (BO U (Al (kq (DZ (FJ U U ?_))))))))));refine ⟨⟨_,_,_,rfl,xS,fun k w' g'=>?_⟩,g⟩;exact rM l _ _ _ k w' (E.E.a g') (fun _=>⟨b,o,rfl,(hR.a g).a g'⟩) hl
theorem vS(q r:Int→Bool)(f h:Ak)(b1 b2:Nat)(k:Int)(w:Ad)(h1:Av w b1 95 [f])(h2:Av w b2 95 [h])(hF:Ms Aj q f w)(hH:Ms Aj r h w) :
 Bx Aj 131 #[.int .i64 k,.pointer (some ⟨b1,0,none⟩),.pointer (some ⟨b2,0,none⟩)] w fun v w'=>v = .bool (q k || r k)∧G w w':=by
 have g:=G.refl w;obtain ⟨f0,X9,af,rfl,ab,ac⟩:=hF;obtain ⟨f1,ae,ah,rfl,aa,ad⟩:=hH;refine JW (m:=13) Tryz.func131 U U [(0,True,_),(1,True,_),(2,True,_)] (K U (K U (K U (Bm _)))) ?_;refine Ao (Ay (BO U (Al (kq (Ao (Ay (AL Sa U ((h1.a g).j U) (As U (F1 U (BK ab (H U) (CF U CT) U) (ac k _ g) (fun w7 g7=>?_))))))))));have g:=g.trans g7;refine As U (BU U U U (AU Sa (H U) (fun _=>(h2.a g).j U)) (AD U U U (fun _=>A9 (H U)) (E9 U U U (fun _=>(BK aa (Am U id) (Cu (Am U id) (CY)) U)) (fun hc=>ad k _ g) (fun ag g11=>?_))));have g:=g.trans g11;refine AC ?_;exact ⟨rfl,g⟩
theorem Rj(q:Int→Bool)(l:List Int)(f:Ak)(b o c:Nat)(w:Ad)(hF:Ms Aj q f w)(hR:Cv w b o (l.map (Value.int .i64)))(hl:l.length≤1000):Bx Aj 113 #[f,.slice (some ⟨b,o,none⟩) l.length c] w fun v w'=>Ms Aj (fun k=>q k || CX l k) v w'∧G w w':=by
 have g:=G.refl w;have aa:=hF;obtain ⟨f0,X9,ah,rfl,ae,af⟩:=hF;refine Cj 9 [0,1] Tryz.func113 ?_;refine CN fun _ _ _ _ g E=>?_;refine BO U (Al (kq (Ao (Ay (As U (AK (L6 l _ _ _ _ (hR.a g) hl) ?_))))));rintro v7 w7 ⟨hA,g7⟩;refine ER g7 fun g=>?_;have ac:=hA;obtain ⟨f1,ag,ai,rfl,ad,aj⟩:=hA;replace E:=E.a g7;have gm:=G.refl w7;refine A1 fun _ _ ga _ g E=>?_;have ab:=ga.ge gm;have gm:=gm.trans (ga.g);refine AS fun _ ga _ g E=>?_;replace gm:=CO gm ga O;refine Al (kq (Ao (Ay (AG U (fun _=>Pl (CT) (CF U (CF U CT))) (BO U (Al (kq (DZ (FJ U U ?_)))))))));refine ⟨⟨_,_,_,rfl,gM,fun k w' g'=>?_⟩,g⟩;exact vS q (CX l) _ _ _ _ k w' (E.Q.a g') (E.E.a g') ((aa.a g).a g') ((ac.a gm).a g')
end Go.Rk
