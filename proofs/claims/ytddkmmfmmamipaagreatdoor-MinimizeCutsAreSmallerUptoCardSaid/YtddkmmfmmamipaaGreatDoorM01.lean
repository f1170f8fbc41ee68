/- Merged texts. Conditions: each text's own. -/
import Derived.Orders
import Derived.Below
import Derived.LoopTactic
import Derived.CallsIn
import Derived.OrdersIn
import Derived.DefersIn
import Derived.RangeFuncRecord
import Derived.RangeFuncLeaves
import Derived.WalkKit
import Derived.WalkSpells
import Derived.WalkLawsBesides
import Derived.Maps.AppendAt
import Derived.Laws.StructEq
import Derived.Stop.IfaceNil
import Derived.Laws.Pointers
import Derived.Lib.Builder
import Derived.Lib.AppendStr
import Derived.Lib.UnsafeStr
import Derived.Laws.Externs
import Derived.Test.YtddkmmfmmamipaaGreatDoorProg
import Derived.KernelRfl
import Derived.RangeFuncOwn
set_option linter.unusedSimpArgs false
set_option linter.unusedVariables false
set_option maxHeartbeats 16000000
set_option maxRecDepth 100000
open Array renaming getElem?_eq_some_iff→Ei,getElem?_eq_getElem→Fe,mem_toList_iff→G0,mapM_eq_mapM_toList→HN,replicate→It,toArray_toList→Ke
open Bool renaming and_eq_true→Bh,or_eq_true→E1,false_or→Jo,eq_iff_iff→I4,or_eq_false_iff→RQ
open Go renaming World→Ad,TypeId→Aw,PanicEntry→Bd,Operand→A7,Program→BH,Value→Ak
open Go.Region renaming wanted→Dt,binds→Ij
open Go.Result renaming andThen_ok→Ez
open List renaming length_cons→Cl,range→Cr,range'_succ→CQ,mem_cons_self→CW,all_eq_true→Dv,mem_cons_of_mem→Eb,pairwise_cons→EG,length_append→FB,mem_cons→Fy,mem_singleton→FS,mem_of_mem_erase→F9,map_cons→Gx,append_assoc→Gz,length_erase_of_mem→GB,map_toArray→HJ,mapM_cons→HA,append_nil→Ih,getD_eq_getElem?_getD→Jb,take_of_length_le→Jm,length_take→J9,nil_append→LD,getElem?_eq_some_iff→Lz,nodup_cons→MM,erase_cons_tail→Ns,eq_nil_of_length_eq_zero→NI,eq_nil_iff_forall_not_mem→Ny,getElem?_eq_none→Q3,take_set_of_le→RZ,drop_set_of_lt→QQ,singleton_append→RN,length_eq_one_iff→Rh
open Nat renaming beq→Ap,blt→AN,eq_of_beq_eq_true→BM,le_of_ble_eq_true→Dg,ble→DF,le_refl→DV,beq_refl→Hf,add_mul→HZ,ne_of_lt→Ic,lt_or_ge→Ik,add_assoc→IG,zero_add→Ka,ble_eq_true_of_le→QV
open Option renaming map_some→FP,map_none→Gg
open Decidable renaming decide→Ae
namespace Go.Proofs
end Go.Proofs
namespace Go.Rk
open Go.Proofs
open Go Go.RowKit
theorem O{p:Prop}(h:p:=by omega):p:=h
theorem Ai{p:Prop}(h:p:=by kernel_rfl):p:=h
theorem Gn{p:Prop}(h:p:=by first|exact .inl rfl|exact .inr ⟨by simp,fun hm=>by have:=htb2 _ hm;omega⟩):p:=h
theorem NY{p:Prop}(h:p:=by first|exact .inl rfl|exact .inr ⟨by simp,fun hm=>by have:=hTB _ hm;omega⟩):p:=h
theorem Cb{p:Prop}(h:p:=by decide):p:=h
theorem BI{p:Prop}(h:p:=by simp):p:=h
theorem Cn{p:Prop}(h:p:=by first|exact .inl (by omega)|exact .inr (by simp)):p:=h
theorem D2{p:Prop}(h:p:=by intro j hj;simp at hj ⊢;omega):p:=h
theorem Ha{p:Prop}(h:p:=by intro j hj;simp at hj ⊢ <;> omega):p:=h
theorem Es{p:Prop}(h:p:=by (have hz:=hc.2;first|(unfold Cp at hz;simp at hz;omega)|(simp at hz;omega))):p:=h
theorem Dj{p:Prop}(h:p:=by have:=g.size;omega):p:=h
theorem DC{p:Prop}(h:p:=by exact fun h=>nomatch h):p:=h
theorem Gp{p:Prop}(h:p:=by exact fun k hk _ e=>by injection e with e;omega):p:=h
theorem Mq{p:Prop}(h:p:=by exact fun k hk _ e=>by have:=hOo.ge k e.symm;omega):p:=h
theorem Fm{p:Prop}(h:p:=by exact fun k hk=>hOo.ge k hk):p:=h
theorem EX{X p q A B:Prop}(x:X)(h:A→B→q)(k:X→(A→B→q)→p:=by exact fun x z=>⟨E3,z (Hc g x) (E.bk x)⟩):p:=k x h
theorem ER{X p q A:Prop}(x:X)(h:A→q)(k:X→(A→q)→p:=by exact fun x z=>⟨fun _=>x,z (g.trans x)⟩):p:=k x h
theorem Do{G' A B q:Go.World→Prop}(h:∀ w,G' w→A w→B w→q w)(k:∀ w,G' w→(A w→B w→q w)→q w:=by exact fun _ ga z=>z (g.trans ga) (E.a ga)):∀ w,G' w→q w:=fun w r=>k w r (h w r)
theorem IY{X p:Prop}(x:X)(k:X→p:=by intro hz;first|(unfold Cp at hz;simp at hz;omega)|(simp at hz;omega)):p:=k x
theorem FO{X p:Prop}(x:X)(k:X→p:=by intro hz;first|(unfold Cp at hz;simp at hz;omega)|(simp at hz;omega)):p:=k x
theorem EM{α:Type _}{a b:α}(h:some a=some b):a=b:=Option.some.inj h
theorem CJ{c:Prop}[Decidable c]{α:Sort _}{a b:α}(h:¬c):ite c a b=b:=if_neg h
theorem CP{c:Prop}[Decidable c]{α:Sort _}{a b:α}(h:c):ite c a b=a:=if_pos h
theorem BN:True:=trivial
theorem Aby{α:Type}{x y:List α}:(x++y).length=x.length+y.length:=FB
theorem Acq{α:Type}{a:α}{x:List α}:(a::x).length=x.length+1:=rfl
theorem Adh{α:Type}:([]:List α).length=0:=rfl
theorem Acj{α:Type}{x:List α}{y:List (List α)}:(x::y).flatten=x++y.flatten:=rfl
theorem Abg{α:Type}:([]:List (List α)).flatten=[]:=rfl
theorem Abm{α:Type}(x:List α):x++[]=x:=Ih x
theorem Aeb{α:Type}{a:α}{n:Nat}:(List.replicate n a).length=n:=List.length_replicate
theorem U{α:Sort _}{a:α}:a=a:=rfl
theorem BQ{p:Prop}[Decidable p]:(decide p=true)=p:=decide_eq_true_eq
theorem CK{p:Prop}[Decidable p]:decide p=false↔¬ p:=decide_eq_false_iff_not
theorem AV{p:Prop}[Decidable p]:decide p=true→p:=of_decide_eq_true
theorem CM{p:Prop}[Decidable p]:decide p=false→¬ p:=of_decide_eq_false
theorem A0{α:Type}(a b:α):cond false a b=b:=rfl
theorem A8{α:Type}(a b:α):cond true a b=a:=rfl
theorem Aq{p:Prop}[Decidable p](h:¬ p):decide p=false:=decide_eq_false h
theorem BW{p:Prop}[Decidable p](h:p):decide p=true:=decide_eq_true h
theorem Ib{a b:Bool}(h:a=b):Value.bool a=Value.bool b:=congrArg Value.bool h
def G(w w':Ad):Prop:=Below w.heap.size w w'
theorem G.refl(w:Ad):G w w:=Below.refl _ _
theorem G.trans{a b c:Ad}(h:G a b)(k:G b c):G a c:=Below.trans h (Below.mono k h.size)
theorem G.drew(w:Ad):G w w.drew:=⟨rfl,rfl,rfl,DV _,fun _ _=>rfl⟩
theorem G.size{a b:Ad}(h:G a b):a.heap.size≤b.heap.size:=Below.size h
theorem G.block{a b:Ad}(h:G a b){k:Nat}(hk:k<a.heap.size):b.heap[k]? = a.heap[k]?:=Below.block h k hk
def Kb(ρ:Option Nat):Fence:={ Fence.wide with round:=ρ }
@[reducible] def Tx:List Bd→Act→Ad→Prop:=fun _ _ _=>False
def Lr(P:BH)(Z:List Bd→Act→Ad→Prop)(gr:Bool)(o:Oper)(a:Act)(w:Ad)(next:Act→Ad→Prop):Prop :=
 (∃ v w',(execOp a.eval o).run P w = .ok (.value v) w'∧(gr=true→G w w')∧next (a.put o.dst v) w')∨
 (∃ w',(execOp a.eval o).run P w = .ok .skip w'∧(gr=true→G w w')∧next (a.put o.dst undef) w')∨
 (∃ f args,(execOp a.eval o).run P w = .ok (.enter f args) w∧Calls P f args w fun e w'=>(∃ v,e = .returned v∧(gr=true→G w w')∧next (a.put o.dst v) w')∨(∃ ch,e = .panicked ch∧Z ch a w'))∨
 (∃ l f tmps asg body,(execOp a.eval o).run P w = .ok (.round l f tmps asg body) w∧RoundIn Fence.wide 0 P l f tmps asg body w fun e w'=>∃ v,e = .returned v∧(gr=true→G w w')∧next (a.put o.dst v) w')
theorem pK{P:BH}{ρ:A7→Ak}{o:Oper}{c:Call}(ho:o.op = .defer c){w w':Ad}{x:Next}(h:(execOp ρ o).run P w = .ok x w'):∃ d,x = .defer d:=by
 unfold execOp at h;rw [ho] at h;simp only [Sem.run_bind,Sem.run_pure] at h
 cases hr:(resolve ρ c o.type).run P w with
 | ok d w1=>rw [hr] at h;simp only [Ez] at h;injection h with h _;exact ⟨d,h.symm⟩
 | halt s w1=>rw [hr] at h;cases h
theorem Pa{P:BH}{ρ:Option Nat}{a:Act}{o:Oper}{w w':Ad}{x:Next}(h:(execOp a.eval o).run P w = .ok x w')(hd:∀ d,x≠.defer d):Oper.semAt ρ a.eval o=execOp a.eval o :=
 Oper.semAt_eq _ _ _ fun c hc=>by obtain ⟨d,e⟩:=pK hc h;exact hd d e
theorem nA{ρ:Option Nat}{n:Nat}{P:BH}{f:FuncId}{args:Array Ak}{w:Ad}{G':Ending→Ad→Prop}(h:Calls P f args w G'):CallsIn (Kb ρ) n P f args w G':=callsIn_wide.2 h
theorem Lr.wpIn{P:BH}{Z:List Bd→Act→Ad→Prop}{gr:Bool}{o:Oper}{a:Act}{w:Ad}{next:Act→Ad→Prop}{Q:Exit→Act→Ad→Prop}{ρ:Option Nat}
 (h:Lr P Z gr o a w next) (hZ:∀ ch w',Z ch a w'→Q (.panic ch) a w'):o.wpIn (Kb ρ) 0 P a w next Q:=by
 refine ⟨fun _ _=>BN,?_⟩;rcases h with ⟨v,w',hr,_,hn⟩|⟨w',hr,_,hn⟩|⟨f,ab,hr,hc⟩|⟨l,f,tmps,aa,body,hr,hc⟩;rw [Pa hr (fun d h=>by cases h),hr];exact hn;rw [Pa hr (fun d h=>by cases h),hr];exact hn;rw [Pa hr (fun d h=>by cases h),hr];refine ⟨(fun h=>by cases h),nA (Calls.mono hc fun e w' h=>?_)⟩;rcases h with ⟨v,rfl,_,hn⟩|⟨ch,rfl,hz⟩;exact hn;exact hZ ch w' hz;rw [Pa hr (fun d h=>by cases h),hr];refine ⟨(fun h=>by cases h),(RoundIn.mono hc fun e w' h=>?_:RoundIn Fence.wide 0 P l f tmps aa body w _)⟩;obtain ⟨v,rfl,_,hn⟩:=h;exact hn
theorem Lr.some{P:BH}{Z:List Bd→Act→Ad→Prop}{gr:Bool}{o:Oper}{a:Act}{w:Ad}{next:Act→Ad→Prop}(hZ:∀ ch a w,¬ Z ch a w)(h:Lr P Z gr o a w next) :
 ∃ v w',(gr=true→G w w')∧next (a.put o.dst v) w':=by
 rcases h with ⟨v,w',_,hg,hn⟩|⟨w',_,hg,hn⟩|⟨f,aa,_,hc⟩|⟨l,f,tmps,ab,body,_,hc⟩;exact ⟨v,w',hg,hn⟩;exact ⟨undef,w',hg,hn⟩;obtain ⟨e,w',fr,h,_⟩:=hc [];rcases h with ⟨v,_,hg,hn⟩|⟨ch,_,hz⟩;exact ⟨v,w',hg,hn⟩;exact absurd hz (hZ _ _ _);obtain ⟨e,w',⟨v,_,hg,hn⟩,_⟩:=hc.2 default [] (room_wide _);exact ⟨v,w',hg,hn⟩
theorem Lr.turn{P:BH}{Z Z':List Bd→Act→Ad→Prop}{gr:Bool}{o:Oper}{a b:Act}{w:Ad}{next aa:Act→Ad→Prop}(he:execOp b.eval o=execOp a.eval o)
 (hz:∀ ch w',Z ch a w'→Z' ch b w')
 (hn:∀ v w',(gr=true→G w w')→next (a.put o.dst v) w'→aa (b.put o.dst v) w') (h:Lr P Z gr o a w next):Lr P Z' gr o b w aa:=by
 rcases h with ⟨v,w',hr,hg,h1⟩|⟨w',hr,hg,h1⟩|⟨f,ab,hr,hc⟩|⟨l,f,tmps,ac,body,hr,hc⟩;exact .inl ⟨v,w',by rw [he];exact hr,hg,hn _ _ hg h1⟩;exact .inr (.inl ⟨w',by rw [he];exact hr,hg,hn _ _ hg h1⟩);refine .inr (.inr (.inl ⟨f,ab,by rw [he];exact hr,Calls.mono hc fun e w' h=>?_⟩));rcases h with ⟨v,e1,hg,h1⟩|⟨ch,e1,h1⟩;exact .inl ⟨v,e1,hg,hn _ _ hg h1⟩;exact .inr ⟨ch,e1,hz _ _ h1⟩;refine .inr (.inr (.inr ⟨l,f,tmps,ac,body,by rw [he];exact hr,RoundIn.mono hc fun e w' h=>?_⟩));obtain ⟨v,e1,hg,h1⟩:=h;exact ⟨v,e1,hg,hn _ _ hg h1⟩
section
variable (P:BH) (Z:List Bd→Act→Ad→Prop) (ops:Array Oper) (cl:Nat→Nat) (lv:Nat→Bool) (W0:Ad) (H':Act→Ad→Prop)
def Sg(cl:Nat→Nat)(lv:Nat→Bool)(W0:Ad)(i:Nat)(w w1:Ad):Prop:=cl i=3∨G (if lv i=true then w else W0) w1
def F7:List Nat→Act→Ad→Prop
 | [],a,w=>H' a w
 | i::rest,a,w =>
  ∃ o,ops[i]? = some o∧
  if cl i=0∨cl i=3 then
   ∃ v,(Dt o (yielded ops a.tmps)=true→∀ w1,Sg cl lv W0 i w w1→(execOp a.eval o).run P w1 = .ok (.value v) w1)∧
    (Dt o (yielded ops a.tmps)=false→v=undef)∧F7 rest (a.put o.dst v) w
  else if Dt o (yielded ops a.tmps)=true then Lr P Z (cl i == 1) o a w (fun a' w'=>F7 rest a' w')
  else F7 rest (a.put o.dst undef) w
end
section
variable {P:BH} {Z:List Bd→Act→Ad→Prop} {ops:Array Oper} {cl:Nat→Nat} {lv:Nat→Bool} {wt:Nat→Nat→Bool} {W0:Ad} {H':Act→Ad→Prop}
structure OX (ops:Array Oper) (cl:Nat→Nat) (lv:Nat→Bool) (wt:Nat→Nat→Bool):Prop where
  sel:∀ (j:Nat) (o:Oper) cs b,ops[j]? = some o→o.op≠.select cs b
  way:∀ (j:Nat) (o:Oper) (i:Nat),ops[j]? = some o→wt j i=true→∃ e,e∈o.after∧Ij .any e=true∧(e.on=i∨wt e.on i=true)
  lt:∀ (j:Nat) (o:Oper) (e:Edge),ops[j]? = some o→e∈o.after→Ij .any e=true→e.on<j
  pair:∀ (i j:Nat) (oi oj:Oper),i<j→ops[i]? = some oi→ops[j]? = some oj→wt j i=false→oi.apart ops oj=true∧(cl i=3∨cl j=3∨(cl i=0∨cl j=0)∧cl i≠2∧cl j≠2)
  cls:∀ i,cl i≤3
  fresh:∀ (i j:Nat),i<j→j<ops.size→cl j=0→lv j=true→cl i≠0→cl i≠3→wt j i=true
  stale:∀ (i j:Nat),i<j→j<ops.size→cl j=0→lv j=false→cl i≠2
theorem vU(hZ:∀ ch a w,¬ Z ch a w)(ok:OX ops cl lv wt){j:Nat}{oj:Oper}(hj:ops[j]? = some oj)(ak:cl j=0∨cl j=3) :
 ∀ (L:List Nat) (a:Act) (w:Ad),L.Pairwise (· < ·)→j∈L→(∀ i∈L,i<j→wt j i=false)→F7 P Z ops cl lv W0 H' L a w→
 ∃ v,(Dt oj (yielded ops a.tmps)=true→∀ w1,Sg cl lv W0 j w w1→(execOp a.eval oj).run P w1 = .ok (.value v) w1)∧
 (Dt oj (yielded ops a.tmps)=false→v=undef)∧F7 P Z ops cl lv W0 H' (L.erase j) (a.put oj.dst v) w:=by
 intro L
 induction L with
 | nil=>intro a w _ hm;cases hm
 | cons i rest ih =>
  intro a w hs hm hr h;obtain ⟨oi,aa,hb⟩:=h;by_cases hij:i=j;subst hij;obtain rfl:oi=oj:=EM (aa.symm.trans hj);rw [CP ak] at hb;obtain ⟨v,h1,h2,h3⟩:=hb;exact ⟨v,h1,h2,by simpa using h3⟩
  have ac:j∈rest:=by
   rcases Fy.1 hm with h|h;exact absurd h.symm hij;exact h
  have ag:i<j:=(EG.1 hs).1 j ac;have af:∀ k∈rest,k<j→wt j k=false:=fun k hk=>hr k (Eb _ hk);have hw:=hr i CW ag;obtain ⟨ao,aq⟩:=ok.pair i j oi oj ag aa hj hw;obtain ⟨p1,p2,p3⟩:=Oper.apart_spec ao
  have he:(i::rest).erase j=i::rest.erase j:=by
   rw [Ns];simpa using hij
  have ah:∀ v,execOp (a.put oi.dst v).eval oj=execOp a.eval oj:=fun v=>execOp_put (ops:=ops) oj (fun cs b=>ok.sel j oj cs b hj) a oi.dst v p1;have ad:∀ v,Dt oj (yielded ops (a.put oi.dst v).tmps)=Dt oj (yielded ops a.tmps):=fun v=>wanted_put oj a oi.dst v p1;have ai:∀ v,execOp (a.put oj.dst v).eval oi=execOp a.eval oi:=fun v=>execOp_put (ops:=ops) oi (fun cs b=>ok.sel i oi cs b aa) a oj.dst v p3;have ab:∀ v,Dt oi (yielded ops (a.put oj.dst v).tmps)=Dt oi (yielded ops a.tmps):=fun v=>wanted_put oi a oj.dst v p3;have ae:∀ u v,(a.put oi.dst u).put oj.dst v=(a.put oj.dst v).put oi.dst u:=fun u v=>Act.put_comm a u v p2;by_cases hci:cl i=0∨cl i=3;rw [CP hci] at hb;obtain ⟨u,h1,h2,h3⟩:=hb;obtain ⟨v,k1,k2,k3⟩:=ih (a.put oi.dst u) w (EG.1 hs).2 ac af h3;rw [ad] at k1 k2;rw [ah] at k1;refine ⟨v,k1,k2,?_⟩;rw [he];refine ⟨oi,aa,?_⟩;rw [CP hci];refine ⟨u,?_,?_,?_⟩;rw [ab,ai];exact h1;rw [ab];exact h2;rw [← ae];exact k3;rw [CJ hci] at hb;by_cases hwi:Dt oi (yielded ops a.tmps)=true;rw [CP hwi] at hb
  have al:∀ w' w1,Sg cl lv W0 j w' w1↔(cl j=3∨G W0 w1):=by
   intro w' w1;unfold Sg;rcases ak with hc|hc
   have an:lv j=false:=by
    cases hl:lv j with
    | false=>rfl
    | true =>
     have:=ok.fresh i j ag (Ei.1 hj).1 hc hl (fun h=>hci (.inl h)) (fun h=>hci (.inr h));rw [this] at hw;cases hw
   rw [CJ (by rw [an];simp)];simp [hc]
  have aj:∀ u w',F7 P Z ops cl lv W0 H' rest (a.put oi.dst u) w'→∃ v,(Dt oj (yielded ops a.tmps)=true→∀ w1,(cl j=3∨G W0 w1)→(execOp a.eval oj).run P w1 = .ok (.value v) w1)∧
    (Dt oj (yielded ops a.tmps)=false→v=undef)∧F7 P Z ops cl lv W0 H' (rest.erase j) ((a.put oi.dst u).put oj.dst v) w':=by
   intro u w' h3
   obtain ⟨v,k1,k2,k3⟩:=ih (a.put oi.dst u) w' (EG.1 hs).2 ac af h3
   rw [ad] at k1 k2
   rw [ah] at k1
   exact ⟨v,fun hh w1 hg=>k1 hh w1 ((al _ _).2 hg),k2,k3⟩
  obtain ⟨u0,am,_,ap⟩:=hb.some hZ;obtain ⟨v,k1,k2,_⟩:=aj u0 am ap;refine ⟨v,fun hh w1 hg=>k1 hh w1 ((al _ _).1 hg),k2,?_⟩;rw [he];refine ⟨oi,aa,?_⟩;rw [CJ hci,ab,CP hwi];refine hb.turn (ai v) (fun ch w' h=>absurd h (hZ _ _ _)) fun u w' _ h3=>?_;obtain ⟨v',q1,q2,q3⟩:=aj u w' h3
  have hv:v'=v:=by
   cases hwj:Dt oj (yielded ops a.tmps) with
   | true =>
    have e1:=k1 hwj W0 (.inr (G.refl _));have e2:=q1 hwj W0 (.inr (G.refl _));rw [e1] at e2;injection e2 with e2 _;injection e2 with e2;exact e2.symm
   | false=>rw [k2 hwj,q2 hwj]
  subst hv;rw [← ae];exact q3;rw [CJ hwi] at hb;obtain ⟨v,k1,k2,k3⟩:=ih (a.put oi.dst undef) w (EG.1 hs).2 ac af hb;rw [ad] at k1 k2;rw [ah] at k1;refine ⟨v,k1,k2,?_⟩;rw [he];refine ⟨oi,aa,?_⟩;rw [CJ hci,ab,CJ hwi,← ae];exact k3
theorem yV(hZ:∀ ch a w,¬ Z ch a w)(ok:OX ops cl lv wt){j:Nat}{oj:Oper}(hj:ops[j]? = some oj)(ad:¬ (cl j=0∨cl j=3)) :
 ∀ (L:List Nat) (a:Act) (w:Ad),L.Pairwise (· < ·)→j∈L→(∀ i∈L,i<j→wt j i=false)→F7 P Z ops cl lv W0 H' L a w→
 if Dt oj (yielded ops a.tmps)=true then Lr P Z (cl j == 1) oj a w (fun a' w'=>F7 P Z ops cl lv W0 H' (L.erase j) a' w')
 else F7 P Z ops cl lv W0 H' (L.erase j) (a.put oj.dst undef) w:=by
 intro L
 induction L with
 | nil=>intro a w _ hm;cases hm
 | cons i rest ih =>
  intro a w hs hm hr h;obtain ⟨oi,ab,hb⟩:=h;by_cases hij:i=j;subst hij;obtain rfl:oi=oj:=EM (ab.symm.trans hj);rw [CJ ad] at hb;simpa using hb
  have ah:j∈rest:=by
   rcases Fy.1 hm with h|h;exact absurd h.symm hij;exact h
  have ag:i<j:=(EG.1 hs).1 j ah;have ao:∀ k∈rest,k<j→wt j k=false:=fun k hk=>hr k (Eb _ hk);have hw:=hr i CW ag;obtain ⟨an,ak⟩:=ok.pair i j oi oj ag ab hj hw
  have ae:cl i=3∨cl i=0∧cl j=1:=by
   have aq:=ok.cls j;rcases ak with h|h|⟨h,_,h2⟩;exact .inl h;exact absurd (.inr h) ad;rcases h with h|h;exact .inr ⟨h,O⟩;exact absurd (.inl h) ad
  have ac:cl i=0∨cl i=3:=by
   rcases ae with h|h;exact .inr h;exact .inl h.1
  obtain ⟨p1,p2,p3⟩:=Oper.apart_spec an
  have he:(i::rest).erase j=i::rest.erase j:=by
   rw [Ns];simpa using hij
  have ap:∀ v,execOp (a.put oi.dst v).eval oj=execOp a.eval oj:=fun v=>execOp_put (ops:=ops) oj (fun cs b=>ok.sel j oj cs b hj) a oi.dst v p1;have ai:∀ v,Dt oj (yielded ops (a.put oi.dst v).tmps)=Dt oj (yielded ops a.tmps):=fun v=>wanted_put oj a oi.dst v p1;have am:∀ v,execOp (a.put oj.dst v).eval oi=execOp a.eval oi:=fun v=>execOp_put (ops:=ops) oi (fun cs b=>ok.sel i oi cs b ab) a oj.dst v p3;have af:∀ v,Dt oi (yielded ops (a.put oj.dst v).tmps)=Dt oi (yielded ops a.tmps):=fun v=>wanted_put oi a oj.dst v p3;have aj:∀ u v,(a.put oi.dst u).put oj.dst v=(a.put oj.dst v).put oi.dst u:=fun u v=>Act.put_comm a u v p2;rw [CP ac] at hb;obtain ⟨u,h1,h2,h3⟩:=hb;have k:=ih (a.put oi.dst u) w (EG.1 hs).2 ah ao h3;rw [ai] at k
  have back:∀ x w',(cl j=1→G w w')→F7 P Z ops cl lv W0 H' (rest.erase j) ((a.put oi.dst u).put oj.dst x) w'→F7 P Z ops cl lv W0 H' ((i::rest).erase j) (a.put oj.dst x) w':=by
   intro x w' hg hk;rw [he];refine ⟨oi,ab,?_⟩;rw [CP ac];refine ⟨u,?_,?_,?_⟩;rw [af,am];intro al w1 aa;refine h1 al w1 ?_;rcases aa with aa|aa;exact .inl aa;rcases ae with hc|⟨_,hc⟩;exact .inl hc;refine .inr ?_;by_cases hl:lv i=true;rw [CP hl] at aa ⊢;exact (hg hc).trans aa;rw [CJ hl] at aa ⊢;exact aa;rw [af];exact h2;rw [← aj];exact hk
  by_cases hwj:Dt oj (yielded ops a.tmps)=true;rw [CP hwj] at k ⊢;refine k.turn (ap u).symm (fun ch w' h=>absurd h (hZ _ _ _)) fun x w' hg hk=>back x w' (fun h=>hg (by simp [h])) hk;rw [CJ hwj] at k ⊢;exact back _ _ (fun _=>G.refl _) k
structure Left (ops:Array Oper) (L:List Nat) (listed:Array Bool):Prop where
  size:listed.size=ops.size
  sorted:L.Pairwise (· < ·)
  w:∀ i,i∈L↔i<ops.size∧listed.getD i true=false
  closed:∀ j oj,ops[j]? = some oj→j∉L→∀ e∈oj.after,Ij .any e=true→e.on∉L
theorem Left.waits(ok:OX ops cl lv wt){L:List Nat}{listed:Array Bool}(hL:Left ops L listed) :
 ∀ (n j:Nat) (oj:Oper),j≤n→ops[j]? = some oj→(∀ e∈oj.after,Ij .any e=true→e.on∉L)→∀ i∈L,wt j i=false:=by
 intro n
 induction n with
 | zero =>
  intro j oj ad hj _ i _
  cases hw:wt j i with
  | false=>rfl
  | true =>
   obtain ⟨e,he,hb,_⟩:=ok.way j oj i hj hw;have:=ok.lt j oj e hj he hb;omega
 | succ n ih =>
  intro j oj ad hj ab i hi
  cases hw:wt j i with
  | false=>rfl
  | true =>
   obtain ⟨e,he,hb,hh⟩:=ok.way j oj i hj hw;have af:=ok.lt j oj e hj he hb;have aa:=ab e he hb;rcases hh with rfl|hh;exact absurd hi aa;have ae:e.on<ops.size:=by have:=(Ei.1 hj).1;omega
   have ac:ops[e.on]? = some ops[e.on]:=Fe ae;have:=ih e.on _ O ac (hL.closed e.on _ ac aa) i hi;rw [this] at hh;cases hh
theorem Left.step{L:List Nat}{listed:Array Bool}(hL:Left ops L listed){j:Nat}{oj:Oper}(hj:ops[j]? = some oj)(aa:∀ e∈oj.after,Ij .any e=true→e.on∉L) :
 Left ops (L.erase j) (listed.setIfInBounds j true):=by
 have ad:j<listed.size:=by rw [hL.size];exact (Ei.1 hj).1
 have nd:L.Nodup:=hL.sorted.imp (fun h=>Ic h);refine ⟨by simp [hL.size],hL.sorted.sublist List.erase_sublist,fun i=>?_,fun k ab hk ac e he hb=>?_⟩;rw [nd.mem_erase_iff,hL.w];by_cases hij:i=j;subst hij;simp [ad];rw [getD_set_ne true (fun h=>hij h.symm)];simp [hij];by_cases hkj:k=j;subst hkj;obtain rfl:ab=oj:=EM (hk.symm.trans hj);exact fun h=>aa e he hb (F9 h);have ae:k∉L:=fun h=>ac (nd.mem_erase_iff.2 ⟨hkj,h⟩);exact fun h=>hL.closed k ab hk ae e he hb (F9 h)
theorem tF{ρ:Option Nat}(hZ:∀ ch a w,¬ Z ch a w)(ok:OX ops cl lv wt){Q:Exit→Act→Ad→Prop}(hQ:∀ a w,H' a w→Q .normal a w) :
 ∀ (n:Nat) (L:List Nat) (listed:Array Bool) (a:Act) (w:Ad),L.length=n→Left ops L listed→(∀ i∈L,cl i=0→lv i=false→G W0 w)→F7 P Z ops cl lv W0 H' L a w→
 wpAnyIn (Kb ρ) 0 P .any ops Q n listed a w:=by
 intro n
 induction n with
 | zero =>
  intro L listed a w hn hL hG h;obtain rfl:L=[]:=NI hn;refine ⟨?_,hQ _ _ h⟩;refine Ny.2 fun j hj=>?_;obtain ⟨h0,o,ho,_⟩:=mem_ready.1 hj;have:=(hL.w j).2 ⟨(Ei.1 ho).1,h0⟩;cases this
 | succ n ih =>
  intro L listed a w hn hL hG h
  have ap:∀ j,j∈Region.ready .any ops listed→∃ oj,ops[j]? = some oj∧j∈L∧∀ e∈oj.after,Ij .any e=true→e.on∉L:=by
   intro j hj;obtain ⟨h0,oj,ho,aa⟩:=mem_ready.1 hj;have am:=(Ei.1 ho).1;refine ⟨oj,ho,(hL.w j).2 ⟨am,h0⟩,fun e he hb hm=>?_⟩;have h1:=aa e he hb;obtain ⟨h2,h3⟩:=(hL.w e.on).1 hm;have h4:e.on<listed.size:=by rw [hL.size];exact h2
   simp [h4] at h1 h3;rw [h1] at h3;cases h3
  refine ⟨fun h0=>?_,fun j hj=>?_⟩;exfalso
  match L,hn,hL,h with
  | i::rest,_,hL,h =>
   obtain ⟨oi,aj,_⟩:=h;have ar:=(hL.w i).1 CW
   have:i∈Region.ready .any ops listed:=by
    refine mem_ready.2 ⟨ar.2,oi,aj,fun e he hb=>?_⟩;have an:=ok.lt i oi e aj he hb
    have au:e.on∉i::rest:=by
     intro hm;rcases Fy.1 hm with hm|hm;omega;have:=(EG.1 hL.sorted).1 _ hm;omega
    have ak:e.on<listed.size:=by rw [hL.size];omega
    cases hl:listed.getD e.on true with
    | false=>exact absurd ((hL.w e.on).2 ⟨by rw [← hL.size];exact ak,hl⟩) au
    | true=>simpa [ak] using hl
   rw [h0] at this;cases this
  obtain ⟨oj,ab,ad,aa⟩:=ap j hj;have ai:∀ i∈L,wt j i=false:=hL.waits ok j j oj (DV _) ab aa;have ah:=hL.step ab aa;have ac:(L.erase j).length=n:=by rw [GB ad];omega
  have nd:L.Nodup:=hL.sorted.imp (fun h=>Ic h);unfold wpOpIn;simp only [ab];by_cases hc:cl j=0∨cl j=3;obtain ⟨v,h1,h2,h3⟩:=vU hZ ok ab hc L a w hL.sorted ad (fun i hi _=>ai i hi) h;have af:∀ i∈L.erase j,cl i=0→lv i=false→G W0 w:=fun i hi=>hG i (F9 hi);have ae:=ih (L.erase j) _ (a.put oj.dst v) w ac ah af h3;by_cases hwj:Dt oj (yielded ops a.tmps)=true;rw [CP hwj]
  have hr:=h1 hwj w (by
   rcases hc with hc|hc;refine .inr ?_;by_cases hl:lv j=true;rw [CP hl];exact G.refl _;rw [CJ hl];exact hG j ad hc (by simpa using hl);exact .inl hc)
  refine ⟨fun _ _=>BN,?_⟩;rw [Pa hr (fun d h=>by cases h),hr];exact ae;rw [CJ hwj];have:=h2 (by simpa using hwj);subst this;exact ⟨fun _ _=>BN,ae⟩;have h1:=yV hZ ok ab hc L a w hL.sorted ad (fun i hi _=>ai i hi) h
  have af:∀ w',(cl j=1→G w w')→∀ i∈L.erase j,cl i=0→lv i=false→G W0 w':=by
   intro w' hg i hi al hl;obtain ⟨ax,ag⟩:=nd.mem_erase_iff.1 hi;have ao:=((hL.w i).1 ag).1;have am:=((hL.w j).1 ad).1
   have aq:cl j=1:=by
    have aw:=ok.cls j
    have ay:cl j≠2:=by
     intro h2;rcases Ik i j with an|av;have:=(ok.pair i j ops[i] oj an (Fe ao) ab (ai i ag)).2;rcases this with h|h|h;omega;omega;exact h.2.2 h2;exact ok.stale j i O ao al hl h2
    omega
   exact (hG i ag al hl).trans (hg aq)
  by_cases hwj:Dt oj (yielded ops a.tmps)=true;rw [CP hwj] at h1 ⊢;refine Lr.wpIn (Z:=Z) (gr:=cl j == 1) ?_ (fun ch w' h=>absurd h (hZ _ _ _));refine h1.turn rfl (fun _ _ h=>h) fun v w' hg hk=>?_;exact ih (L.erase j) _ _ w' ac ah (af w' fun e=>hg (by simp [e])) hk;rw [CJ hwj] at h1 ⊢;exact ⟨fun _ _=>BN,ih (L.erase j) _ _ w ac ah (fun i hi=>hG i (F9 hi)) h1⟩
theorem dF(ops:Array Oper):Left ops (Cr ops.size) (It ops.size false):=by
 refine ⟨by simp,List.pairwise_lt_range,fun i=>?_,fun j oj hj hn=>?_⟩;rw [List.mem_range];constructor;intro h;exact ⟨h,by simp [h]⟩;exact fun h=>h.1;exact absurd (List.mem_range.2 (Ei.1 hj).1) hn
theorem mP{ρ:Option Nat}(hZ:∀ ch a w,¬ Z ch a w)(ok:OX ops cl lv wt){id:Nat}{Q:Exit→Act→Ad→Prop}{a:Act}{w:Ad}(hm:P.follows .mixedOrders=true)
 (h:F7 P Z ops cl lv w.drew (fun a w=>Q .normal a w) (Cr ops.size) a w.drew):(Code.region id ops true).wpIn (Kb ρ) 0 P Q a w:=by
 refine wpIn_region_any hm ?_;have:=tF (Q:=Q) (ρ:=ρ) hZ ok (fun _ _ h=>h) (Cr ops.size).length (Cr ops.size) (It ops.size false) a w.drew rfl (dF ops) (fun _ _ _ _=>G.refl _) h;simpa using this
theorem Aag(ok:OX ops cl lv wt){id:Nat}{Q:Exit→Act→Ad→Prop}{a:Act}{w:Ad}(hm:P.follows .mixedOrders=true)
  (h:F7 P Tx ops cl lv w.drew (fun a w=>Q .normal a w) (Cr ops.size) a w.drew):(Code.region id ops true).wp P Q a w :=
 wpIn_wide.1 (mP (ρ:=none) (fun _ _ _ h=>h) ok hm h)
theorem O2{ρ:Option Nat}{Q:Exit→Act→Ad→Prop}(hZ:∀ ch a w,Z ch a w→Q (.panic ch) a w):∀ (L:List Nat) (a:Act) (w:Ad),F7 P Z ops cl (fun _=>true) W0 (fun a w=>Q .normal a w) L a w→wpOpsIn (Kb ρ) 0 P ops Q L a w
 | [],_,_,h=>h
 | i::rest,a,w,h=>by
  obtain ⟨o,ho,hb⟩:=h;unfold wpOpsIn;simp only [ho];by_cases hw:Dt o (yielded ops a.tmps)=true;rw [CP hw];by_cases hc:cl i=0∨cl i=3;rw [CP hc] at hb;obtain ⟨v,h1,_,h3⟩:=hb;have hr:=h1 hw w (.inr (by rw [CP rfl];exact G.refl _));refine ⟨fun _ _=>BN,?_⟩;rw [Pa hr (fun d h=>by cases h),hr];exact O2 hZ rest _ _ h3;rw [CJ hc,CP hw] at hb;exact Lr.wpIn (hb.turn rfl (fun _ _ h=>h) fun v w' _ hk=>O2 hZ rest _ _ hk) (fun ch w' h=>hZ _ _ _ h);rw [CJ hw];refine ⟨fun _ _=>BN,?_⟩;by_cases hc:cl i=0∨cl i=3;rw [CP hc] at hb;obtain ⟨v,_,h2,h3⟩:=hb;have:=h2 (by simpa using hw);subst this;exact O2 hZ rest _ _ h3;rw [CJ hc,CJ hw] at hb;exact O2 hZ rest _ _ hb
theorem dZ{ρ:Option Nat}{id:Nat}{Q:Exit→Act→Ad→Prop}{a:Act}{w:Ad}(hZ:∀ ch a w,Z ch a w→Q (.panic ch) a w)(h:F7 P Z ops cl (fun _=>true) W0 (fun a w=>Q .normal a w) (Cr ops.size) a w) :
  (Code.region id ops false).wpIn (Kb ρ) 0 P Q a w:=wpIn_region (O2 hZ _ _ _ h)
end
def Bw(cl:List Nat)(i:Nat):Nat:=cl.getD i 0
def Ji(lv:List Bool)(i:Nat):Bool:=lv.getD i true
def Iw(ms:List Nat)(j i:Nat):Bool:=(ms.getD j 0).testBit i
def NO(ms:List Nat):List Edge→Nat
 | []=>0
 | e::r=>if Ij .any e=true then (2 ^ e.on) ||| (ms.getD e.on 0) ||| NO ms r else NO ms r
def S4(o:Oper):Bool:=match o.op with | .select ..=>false|_=>true
def M0(ops:Array Oper)(cl:List Nat)(lv:List Bool)(ms:List Nat)(E:List (Nat×Oper×Nat))(k:Nat)(o:Oper):Bool :=
 S4 o&&DF (Bw cl k) 3&&o.after.toList.all (fun e=>!Ij .any e || AN e.on k)&&Ap (ms.getD k 0) (NO ms o.after.toList) &&
 E.all (fun p=>(ms.getD k 0).testBit p.1 || (p.2.1.apart ops o&&(Ap p.2.2 3 || Ap (Bw cl k) 3 || (Ap p.2.2 0 || Ap (Bw cl k) 0) && !Ap p.2.2 2 && !Ap (Bw cl k) 2))) &&
 (!Ap (Bw cl k) 0 || if Ji lv k=true then E.all (fun p=>Ap p.2.2 0 || Ap p.2.2 3 || (ms.getD k 0).testBit p.1) else E.all (fun p=>!Ap p.2.2 2))
def Sq(ops:Array Oper)(cl:List Nat)(lv:List Bool)(ms:List Nat):List (Nat×Oper×Nat)→Nat→List Oper→Bool
 | _,_,[]=>true
 | E,k,o::rest=>M0 ops cl lv ms E k o&&Sq ops cl lv ms ((k,o,Bw cl k)::E) (k+1) rest
def SX(l:List Oper)(cl:List Nat)(lv:List Bool)(ms:List Nat):Bool :=
 Sq l.toArray cl lv ms [] 0 l&&DF cl.length l.length&&DF ms.length l.length
theorem SA(ms:List Nat)(i:Nat):∀ (l:List Edge),(NO ms l).testBit i=true→∃ e,e∈l∧Ij .any e=true∧(e.on=i∨Iw ms e.on i=true)
 | [],h=>by simp [NO] at h
 | e::r,h=>by
  unfold NO at h;by_cases hb:Ij .any e=true;rw [CP hb,Nat.testBit_or,Nat.testBit_or,E1,E1] at h;rcases h with (h|h)|h;refine ⟨e,CW,hb,.inl ?_⟩;rw [Nat.testBit_two_pow] at h;simpa using h;exact ⟨e,CW,hb,.inr h⟩;obtain ⟨e',h1,h2⟩:=SA ms i r h;exact ⟨e',Eb _ h1,h2⟩;rw [CJ hb] at h;obtain ⟨e',h1,h2⟩:=SA ms i r h;exact ⟨e',Eb _ h1,h2⟩
theorem bU(ops:Array Oper)(cl:List Nat)(lv:List Bool)(ms:List Nat):∀ (l:List Oper) (E:List (Nat×Oper×Nat)) (k:Nat),
  (∀ j,l[j]? = ops[k+j]?)→(∀ i,i<k→∃ oi,ops[i]? = some oi∧(i,oi,Bw cl i)∈E)→Sq ops cl lv ms E k l=true→
  ∀ j oj,k≤j→ops[j]? = some oj→∃ E',(∀ i,i<j→∃ oi,ops[i]? = some oi∧(i,oi,Bw cl i)∈E')∧M0 ops cl lv ms E' j oj=true
 | [],_,k,hl,_,_=>by
  intro j oj aa hj;have:=hl (j-k);rw [show k+(j-k)=j by omega,hj] at this;simp at this
 | o::rest,E,k,hl,hE,h=>by
  intro j oj aa hj;unfold Sq at h;rw [Bh] at h;have h0:ops[k]? = some o:=by simpa using (hl 0).symm
  by_cases hjk:j=k;subst hjk;obtain rfl:o=oj:=EM (h0.symm.trans hj);exact ⟨E,hE,h.1⟩;refine bU ops cl lv ms rest ((k,o,Bw cl k)::E) (k+1) (fun j=>by have:=hl (j+1);simpa [IG,Nat.add_comm 1 j] using this) ?_ h.2 j oj O hj;intro i hi;by_cases hik:i=k;subst hik;exact ⟨o,h0,CW⟩;obtain ⟨oi,h1,h2⟩:=hE i O;exact ⟨oi,h1,Eb _ h2⟩
theorem jV{l:List Oper}{cl:List Nat}{lv:List Bool}{ms:List Nat}(h:SX l cl lv ms=true):OX l.toArray (Bw cl) (Ji lv) (Iw ms):=by
 unfold SX at h;rw [Bh,Bh] at h;obtain ⟨⟨h,af⟩,ad⟩:=h;have S:=bU l.toArray cl lv ms l [] 0 BI (fun i hi=>absurd hi O) h;have at_:∀ j oj,l.toArray[j]? = some oj→∃ E',(∀ i,i<j→∃ oi,l.toArray[i]? = some oi∧(i,oi,Bw cl i)∈E')∧M0 l.toArray cl lv ms E' j oj=true:=fun j oj hj=>S j oj (Nat.zero_le _) hj
 have ac:∀ j,l.toArray.size≤j→Bw cl j=0∧ms.getD j 0=0:=by
  intro j hj;have h1:=Dg af;have h2:=Dg ad;simp only [List.size_toArray] at hj;constructor;unfold Bw;rw [Jb,Q3 O];rfl;rw [Jb,Q3 O];rfl
 refine ⟨?_,?_,?_,?_,?_,?_,?_⟩;intro j o cs b hj ah;obtain ⟨E',_,hh⟩:=at_ j o hj;simp [M0,S4,ah] at hh;intro j o i hj hw;obtain ⟨E',_,hh⟩:=at_ j o hj;simp only [M0,Bh] at hh;have hm:=BM hh.1.1.2;unfold Iw at hw;rw [hm] at hw;obtain ⟨e,h1,h2⟩:=SA ms i _ hw;exact ⟨e,G0.1 h1,h2⟩;intro j o e hj he hb;obtain ⟨E',_,hh⟩:=at_ j o hj;simp only [M0,Bh,Dv,G0,E1,Bool.not_eq_true'] at hh;rcases hh.1.1.1.2 e he with h1|h1;rw [hb] at h1;cases h1;exact Dg h1;intro i j oi oj aa hi hj hw;obtain ⟨E',hE,hh⟩:=at_ j oj hj;simp only [M0,Bh,Dv,E1] at hh;obtain ⟨ae,h1,h2⟩:=hE i aa;obtain rfl:ae=oi:=EM (h1.symm.trans hi);rcases hh.1.2 _ h2 with h3|h3;unfold Iw at hw;rw [h3] at hw;cases hw;obtain ⟨a1,h4⟩:=h3;refine ⟨a1,?_⟩;rcases h4 with (h4|h4)|h4;exact .inl (BM h4);exact .inr (.inl (BM h4));obtain ⟨⟨a2,a3⟩,a4⟩:=h4;refine .inr (.inr ⟨?_,?_,?_⟩);rcases a2 with a2|a2;exact .inl (BM a2);exact .inr (BM a2);intro h;dsimp only at a3;rw [h] at a3;simp at a3;intro h;rw [h] at a4;simp at a4;intro i;rcases Ik i l.toArray.size with hi|hi;obtain ⟨E',_,hh⟩:=at_ i _ (Fe hi);simp only [M0,Bh] at hh;exact Dg hh.1.1.1.1.2;rw [(ac i hi).1];omega;intro i j aa hj ab hl hc ag;obtain ⟨E',hE,hh⟩:=at_ j _ (Fe hj);obtain ⟨oi,h1,h2⟩:=hE i aa;simp only [M0,Bh] at hh;have h3:=hh.2;rw [ab,hl] at h3
 simp only [Hf,Bool.not_true,Jo,if_true,Dv,E1] at h3;rcases h3 _ h2 with (h3|h3)|h3;exact absurd (BM h3) hc;exact absurd (BM h3) ag;exact h3;intro i j aa hj ab hl hc;obtain ⟨E',hE,hh⟩:=at_ j _ (Fe hj);obtain ⟨oi,h1,h2⟩:=hE i aa;simp only [M0,Bh] at hh;have h3:=hh.2;rw [ab,hl] at h3;simp only [Hf,Bool.not_true,Jo] at h3;rw [CJ BI] at h3;have h4:=Dv.1 h3 _ h2;dsimp only at h4;rw [hc] at h4;simp at h4
abbrev Ce:=Nat×Prop×Ak
def Ey:List Ce→Nat→Option (Prop×Ak)
 | [],_=>none
 | (k,c,v)::r,t=>bif Ap k t then some (c,v) else Ey r t
def Cx(n:Nat)(σ:List Ce)(a:Act):Prop :=
 a.tmps.size=n∧a.defers=[]∧∀ t c v,Ey σ t=some (c,v)→(c→a.tmps[t]? = some v)∧(¬ c→a.tmps[t]? = some undef)
def Bz(n:Nat)(σ:List Ce)(c:Prop)(x:A7)(v:Ak):Prop:=∀ a,Cx n σ a→c→a.eval x=v
theorem Q9(a:Act)(v:Ak):a.eval (.const v)=v:=rfl
theorem Cx.j{n:Nat}{σ:List Ce}{a:Act}(h:Cx n σ a){t:Nat}{c:Prop}{v:Ak}(hl:Ey σ t=some (c,v))(hc:c):a.tmps[t]? = some v:=(h.2.2 t c v hl).1 hc
section
variable {n:Nat} {σ:List Ce} {c:Prop} {v:Ak}
theorem H{t:Nat}(h:Ey σ t=some (True,v)):Bz n σ c (.tmp t) v:=fun a ha _=>by
 simp [Act.eval,ha.j h BN]
theorem Am{t:Nat}{c':Prop}(h:Ey σ t=some (c',v))(hc:c→c'):Bz n σ c (.tmp t) v:=fun a ha h1=>by
 simp [Act.eval,ha.j h (hc h1)]
theorem Bl:Bz n σ c (.const v) v:=fun _ _ _=>rfl
theorem IE{g:Nat}:Bz n σ c (.global g) (.pointer (some ⟨g,0,none⟩)):=fun _ _ _=>rfl
theorem Cf{f:Nat}:Bz n σ c (.func f) (.func (.func f) #[] #[]):=fun _ _ _=>rfl
theorem Bz.to{x:A7}{v':Ak}(h:Bz n σ c x v)(e:c→v=v'):Bz n σ c x v':=fun a ha hc=>(h a ha hc).trans (e hc)
end
theorem Cx.put{n:Nat}{σ:List Ce}{a:Act}(h:Cx n σ a){d:Nat}(hd:AN d n=true){c:Prop}{v v':Ak}(h1:c→v'=v)(h2:¬ c→v'=undef) :
 Cx n ((d,c,v) :: σ) (a.put (some d) v'):=by
 have aa:d<n:=Dg hd;refine ⟨by simp [Act.put,h.1],h.2.1,fun t c' u hl=>?_⟩;unfold Ey at hl;by_cases ht:d=t;subst ht;simp only [Hf,A8] at hl;injection hl with hl;injection hl with e1 e2;subst e1;subst e2;have hs:d<a.tmps.size:=by rw [h.1];exact aa
 simp only [Act.put];rw [Array.getElem?_setIfInBounds_self_of_lt hs];exact ⟨fun hc=>by rw [h1 hc],fun hc=>by rw [h2 hc]⟩
 have:Ap d t=false:=by
  cases hb:Ap d t with
  | false=>rfl
  | true=>exact absurd (BM hb) ht
 rw [this] at hl;simp only [A0] at hl;simp only [Act.put];rw [Array.getElem?_setIfInBounds_ne ht];exact h.2.2 t c' u hl
def Hs(τ σ:List Ce):Prop:=∀ t c v,Ey τ t=some (c,v)→Ey σ t=some (c,v)
theorem Bm(σ:List Ce):Hs [] σ:=fun _ _ _ h=>by simp [Ey] at h
theorem K{t:Nat}{c:Prop}{v:Ak}{τ σ:List Ce}(h:Ey σ t=some (c,v))(k:Hs τ σ):Hs ((t,c,v) :: τ) σ:=fun u c' v' hl=>by
 unfold Ey at hl
 cases hb:Ap t u with
 | true =>
  rw [hb] at hl;obtain rfl:=BM hb;simp only [A8] at hl;injection hl with hl;injection hl with e1 e2;subst e1;subst e2;exact h
 | false=>rw [hb] at hl;exact k u c' v' hl
theorem Adk{σ τ:List Ce}(h:Hs τ σ:=by repeat (first|exact Bm _|refine K rfl ?_)):Hs τ σ:=h
theorem Cx.sub{n:Nat}{τ σ:List Ce}{a:Act}(h:Cx n σ a)(k:Hs τ σ):Cx n τ a:=⟨h.1,h.2.1,fun t c v hl=>h.2.2 t c v (k t c v hl)⟩
structure DB (P:BH) (n:Nat) (σ:List Ce) (c:Prop) (wb:Ad) (op:Op) (ty:Aw) (v:Ak):Prop where mk ::
  h:∀ (d:Option Tmp) (pos:String) (after:Array Edge) (g:Option (Nat×Bool)) (a:Act),Cx n σ a→c→∀ w1,G wb w1→(execOp a.eval ⟨d,op,ty,pos,after,g⟩).run P w1 = .ok (.value v) w1
instance {P:BH} {n:Nat} {σ:List Ce} {c:Prop} {wb:Ad} {op:Op} {ty:Aw} {v:Ak}:CoeFun (DB P n σ c wb op ty v) fun _=>∀ (d:Option Tmp) (pos:String) (after:Array Edge) (g:Option (Nat×Bool)) (a:Act),Cx n σ a→c→∀ w1,G wb w1→(execOp a.eval ⟨d,op,ty,pos,after,g⟩).run P w1 = .ok (.value v) w1:=⟨DB.h⟩
def G4(P:BH)(t:Aw):Bool:=match P.underlying t with|some (.struct _)=>false|some (.array _ _)=>false|some _=>true|none=>false
def KW(P:BH)(t:Aw):Option Nat:=match P.underlying t,P.info? t with|some (.struct _),some i=>some i.size|some (.array _ _),some i=>some i.size|_,_=>none
def Ir(P:BH)(t:Aw):Option Nat:=(P.info? t).map (·.size)
def FQ(P:BH)(t:Aw):Option (Aw×Nat×Nat):=match P.underlying t with|some (.slice e)=>(P.info? e).map fun i=>(e,i.size,i.bytes)|_=>none
def Ni(P:BH)(t:Aw):Bool:=match P.underlying t with|some .string=>true|_=>false
def EB(P:BH)(s:Aw)(k:Nat):Option Nat:=match P.underlying s with
 | some (.struct fs)=>match fs[k]? with
  | some f=>match P.info? f.type with
   | some i=>if i.size=0 then none else some f.offset
   | none=>none
  | none=>none
 | _=>none
def Cv(w:Ad)(b o:Nat)(l:List Ak):Prop:=∀ j v,l[j]? = some v→w.cell? ⟨b,o+j,none⟩=some v
theorem QM{w w1:Ad}(h:G w w1){a:Addr}{v:Ak}(hc:w.cell? a=some v):w1.cell? a=some v:=(Below.cell h (World.block_lt_of_cell? w a hc)).trans hc
theorem Cv.a{w w1:Ad}{b o:Nat}{l:List Ak}(h:Cv w b o l)(hg:G w w1):Cv w1 b o l:=fun j v hj=>QM hg (h j v hj)
theorem Cv.part{w:Ad}{b o:Nat}{l:List Ak}(h:Cv w b o l)(i m:Nat):Cv w b (o+i) ((l.drop i).take m):=fun j v hj=>by
 rw [List.getElem?_take] at hj;split at hj;rw [List.getElem?_drop] at hj;have:=h (i+j) v hj;rwa [← IG] at this;cases hj
theorem Cv.one{w:Ad}{b o:Nat}{l:List Ak}(h:Cv w b o l){i:Nat}{v:Ak}(hi:l[i]? = some v):w.cell? ⟨b,o+i,none⟩=some v:=h i v hi
section
variable {P:BH} {n:Nat} {σ:List Ce} {c:Prop} {wb:Ad} {ty:Aw}
theorem A9{x:A7}{v:Ak}(h:Bz n σ c x v):DB P n σ c wb (.move x) ty v:=.mk fun d pos after g a ha hc w1 _=>by
 simp [execOp,h a ha hc]
theorem Eu{x:A7}{v:Ak}(h:Bz n σ c x v):DB P n σ c wb (.assign x) ty v:=.mk fun d pos after g a ha hc w1 _=>by
 simp [execOp,h a ha hc]
theorem F8{x:A7}{b:Addr}(h:Bz n σ c x (.pointer (some b))):DB P n σ c wb (.nilCheck x) ty (.pointer (some b)):=.mk fun d pos after g a ha hc w1 _=>by
 simp [execOp,h a ha hc]
theorem ES{x y:A7}{g y':Bool}(h:Bz n σ c x (.bool g))(h1:Bz n σ (c∧g=true) y (.bool y')):DB P n σ c wb (.pick x y (.const (.bool false))) ty (.bool (g&&y')):=.mk fun d pos after gd a ha hc w1 _=>by
 cases g with
 | false=>simp [execOp,h a ha hc,asBool,Q9]
 | true=>simp [execOp,h a ha hc,asBool,h1 a ha ⟨hc,rfl⟩]
theorem Gv{x y:A7}{g y':Bool}(h:Bz n σ c x (.bool g))(h1:Bz n σ (c∧g=false) y (.bool y')):DB P n σ c wb (.pick x (.const (.bool true)) y) ty (.bool (g || y')):=.mk fun d pos after gd a ha hc w1 _=>by
 cases g with
 | true=>simp [execOp,h a ha hc,asBool,Q9]
 | false=>simp [execOp,h a ha hc,asBool,h1 a ha ⟨hc,rfl⟩]
theorem AE{s k aa b o:Nat}{x:A7}(hf:EB P s k=some aa)(h:Bz n σ c x (.pointer (some ⟨b,o,none⟩))) :
 DB P n σ c wb (.fieldAddr s x k) ty (.pointer (some ⟨b,o+aa,none⟩)):=.mk fun d pos after gd a ha hc w1 _=>by
 unfold EB at hf;split at hf;rename_i fs hs;split at hf;rename_i f hk;split at hf;rename_i i hi;split at hf;cases hf;rename_i hz;injection hf with hf;subst hf;simp [execOp,h a ha hc,Instr.fieldAt,run_underlying hs,hk,Instr.sureAddr,fieldPlace,sizeOf,typeInfo,hi,hz,Addr.add_lit];cases hf;cases hf;cases hf
theorem aX{t:Aw}(ht:G4 P t=true){w:Ad}{ad:Addr}{v:Ak}(hc:w.cell? ad=some v):(loadVar t ad).run P w = .ok v w:=by
 unfold G4 at ht;split at ht <;> try (cases ht;done)
 rename_i d aa ab hd
 have:(isAgg t).run P w = .ok false w:=by
  simp only [isAgg,Sem.run_bind,run_underlying hd,Ez];rfl
 simp [loadVar,this,hc]
theorem cH{t:Aw}{z:Nat}(ht:KW P t=some z){w:Ad}{b o:Nat}{l:List Ak}(hl:l.length=z)(hc:Cv w b o l) :
 (loadVar t ⟨b,o,none⟩).run P w = .ok (.agg l.toArray) w:=by
 have:(isAgg t).run P w = .ok true w∧(sizeOf t).run P w = .ok z w:=by
  unfold KW at ht;split at ht;rename_i fs i hs hi;injection ht with ht;constructor;simp only [isAgg,Sem.run_bind,run_underlying hs,Ez];rfl;simp [sizeOf,typeInfo,hi,ht];rename_i fs m i hs hi;injection ht with ht;constructor;simp only [isAgg,Sem.run_bind,run_underlying hs,Ez];rfl;simp [sizeOf,typeInfo,hi,ht];cases ht
 have aa:=run_loadCells_list (P:=P) (w:=w) ⟨b,o,none⟩ l (fun j v hj=>by rw [Addr.add_lit];exact hc j v hj);rw [hl] at aa;simp [loadVar,this.1,this.2,aa]
theorem AU{t b o:Nat}{x:A7}{v:Ak}(ht:G4 P t=true)(h:Bz n σ c x (.pointer (some ⟨b,o,none⟩)))(hc:c→wb.cell? ⟨b,o,none⟩=some v) :
 DB P n σ c wb (.load t x) ty v:=.mk fun d pos after gd a ha aa w1 hg=>by
 simp [execOp,h a ha aa,Instr.loadAt,Instr.sureAddr,aX ht (QM hg (hc aa))]
theorem A2{t b o z:Nat}{x:A7}{l:List Ak}(ht:KW P t=some z)(h:Bz n σ c x (.pointer (some ⟨b,o,none⟩)))(hl:l.length=z)(hc:c→Cv wb b o l) :
 DB P n σ c wb (.load t x) ty (.agg l.toArray):=.mk fun d pos after gd a ha aa w1 hg=>by
 simp [execOp,h a ha aa,Instr.loadAt,Instr.sureAddr,cH ht hl ((hc aa).a hg)]
theorem FW{x:A7}{i:Nat}{vs:Array Ak}{v:Ak}(h:Bz n σ c x (.tuple vs))(hv:vs[i]? = some v):DB P n σ c wb (.extract x i) ty v:=.mk fun d pos after gd a ha hc w1 _=>by
 simp [execOp,h a ha hc,Instr.extract,hv]
theorem Vu{x:Int}(h : -9223372036854775808≤x∧x≤9223372036854775807):IntKind.i64.wrap x=x:=by
 rw [IntKind.wrap_i64];omega
theorem UR{op:BinOp}{t u:Aw}{x y:A7}{k:IntKind}{i j r:Int}(h:Bz n σ c x (.int k i))(h':Bz n σ c y (.int k j))
 (hr:c→Op.intArith op k i j=pure (.int k r)) (ho:op = .add∨op = .sub∨op = .mul):DB P n σ c wb (.binOp op t x y u) ty (.int k r):=.mk fun d pos after gd a ha hc w1 _=>by
 rcases ho with rfl|rfl|rfl <;> simp [execOp,h a ha hc,h' a ha hc,eqGuard_at_int,binOp,hr hc]
theorem TL{t u:Aw}{x y:A7}{i j:Int}(h:Bz n σ c x (.int .i64 i))(h':Bz n σ c y (.int .i64 j))(hr:c→-9223372036854775808≤i+j∧i+j≤9223372036854775807) :
  DB P n σ c wb (.binOp .add t x y u) ty (.int .i64 (i+j)):=UR h h' (fun hc=>by simp [Op.intArith,Vu (hr hc)]) (.inl rfl)
theorem JE{t u:Aw}{x y:A7}{i j:Int}(h:Bz n σ c x (.int .i64 i))(h':Bz n σ c y (.int .i64 j))(hr:c→-9223372036854775808≤i-j∧i-j≤9223372036854775807) :
  DB P n σ c wb (.binOp .sub t x y u) ty (.int .i64 (i-j)):=UR h h' (fun hc=>by simp [Op.intArith,Vu (hr hc)]) (.inr (.inl rfl))
theorem kX{t u:Aw}{x y:A7}{k:IntKind}{i j:Int}(h:Bz n σ c x (.int k i))(h':Bz n σ c y (.int k j)) :
  DB P n σ c wb (.binOp .sub t x y u) ty (.int k (k.wrap (i-j))):=UR h h' (fun hc=>by simp [Op.intArith]) (.inr (.inl rfl))
theorem GA{t u:Aw}{x y:A7}{k:IntKind}{i j:Int}(h:Bz n σ c x (.int k i))(h':Bz n σ c y (.int k j)):DB P n σ c wb (.binOp .eql t x y u) ty (.bool (Ae (i=j))):=.mk fun d pos after gd a ha hc w1 _=>by
 simp [execOp,h a ha hc,h' a ha hc,eqGuard_at_int,binOp,Op.intCmp];rfl
theorem KP{t u:Aw}{x y:A7}{k:IntKind}{i j:Int}(h:Bz n σ c x (.int k i))(h':Bz n σ c y (.int k j)):DB P n σ c wb (.binOp .neq t x y u) ty (.bool (!Ae (i=j))):=.mk fun d pos after gd a ha hc w1 _=>by
 simp [execOp,h a ha hc,h' a ha hc,eqGuard_at_int,binOp,Op.intCmp];rfl
theorem Pn{t u:Aw}{x y:A7}{k:IntKind}{i j:Int}(h:Bz n σ c x (.int k i))(h':Bz n σ c y (.int k j)):DB P n σ c wb (.binOp .lss t x y u) ty (.bool (Ae (i<j))):=.mk fun d pos after gd a ha hc w1 _=>by
 simp [execOp,h a ha hc,h' a ha hc,eqGuard_at_int,binOp,Op.intCmp]
theorem Yj{t u:Aw}{x y:A7}{k:IntKind}{i j:Int}(h:Bz n σ c x (.int k i))(h':Bz n σ c y (.int k j)):DB P n σ c wb (.binOp .leq t x y u) ty (.bool (Ae (i≤j))):=.mk fun d pos after gd a ha hc w1 _=>by
 simp [execOp,h a ha hc,h' a ha hc,eqGuard_at_int,binOp,Op.intCmp]
theorem QJ{t u:Aw}{x y:A7}{k:IntKind}{i j:Int}(h:Bz n σ c x (.int k i))(h':Bz n σ c y (.int k j)):DB P n σ c wb (.binOp .gtr t x y u) ty (.bool (Ae (j<i))):=.mk fun d pos after gd a ha hc w1 _=>by
 simp [execOp,h a ha hc,h' a ha hc,eqGuard_at_int,binOp,Op.intCmp]
theorem P4{t u:Aw}{x y:A7}{k:IntKind}{i j:Int}(h:Bz n σ c x (.int k i))(h':Bz n σ c y (.int k j)):DB P n σ c wb (.binOp .geq t x y u) ty (.bool (Ae (j≤i))):=.mk fun d pos after gd a ha hc w1 _=>by
 simp [execOp,h a ha hc,h' a ha hc,eqGuard_at_int,binOp,Op.intCmp]
theorem jK{t u:Aw}{x y:A7}{i j:Bool}(ht:P.underlying t=some .bool)(h:Bz n σ c x (.bool i))(h':Bz n σ c y (.bool j)):DB P n σ c wb (.binOp .eql t x y u) ty (.bool (i == j)):=.mk fun d pos after gd a ha hc w1 _=>by
 simp [execOp,h a ha hc,h' a ha hc,eqGuard_at_bool,binOp,Op.equal,Op.maxDepth,run_equalIn_bool' w1 9999 t i j ht]
theorem gX{t u:Aw}{x y:A7}{i j:Bool}(ht:P.underlying t=some .bool)(h:Bz n σ c x (.bool i))(h':Bz n σ c y (.bool j)):DB P n σ c wb (.binOp .neq t x y u) ty (.bool (i != j)):=.mk fun d pos after gd a ha hc w1 _=>by
 simp [execOp,h a ha hc,h' a ha hc,eqGuard_at_bool,binOp,Op.equal,Op.maxDepth,run_equalIn_bool' w1 9999 t i j ht];cases i <;> cases j <;> rfl
theorem Nl{t:Aw}{x:A7}{i:Bool}(h:Bz n σ c x (.bool i)):DB P n σ c wb (.unOp .not t x) ty (.bool (!i)):=.mk fun d pos after gd a ha hc w1 _=>by
 simp [execOp,h a ha hc,Op.unary]
@[reducible] def Co(l:List UInt8):Ak:=.string ⟨l.toArray⟩
theorem QC{t u:Aw}{x y:A7}{i j:List UInt8}(h:Bz n σ c x (Co i))(h':Bz n σ c y (Co j)):DB P n σ c wb (.binOp .eql t x y u) ty (.bool (Ae (i=j))):=.mk fun d pos after gd a ha hc w1 _=>by
 simp [execOp,h a ha hc,h' a ha hc,eqGuard_at_string,binOp,Op.stringOp];rw [I4];simp
theorem Sz{t u:Aw}{x y:A7}{i j:List UInt8}(h:Bz n σ c x (Co i))(h':Bz n σ c y (Co j)):DB P n σ c wb (.binOp .neq t x y u) ty (.bool (!Ae (i=j))):=.mk fun d pos after gd a ha hc w1 _=>by
 simp [execOp,h a ha hc,h' a ha hc,eqGuard_at_string,binOp,Op.stringOp];rw [I4];simp
theorem NT{t:Aw}(h:Ni P t=true):P.underlying t=some .string:=by
 unfold Ni at h;split at h;assumption;cases h
theorem SL{t:Aw}{x:A7}{i:List UInt8}(ht:Ni P t=true)(h:Bz n σ c x (Co i)):DB P n σ c wb (.call { callee:=.builtin .len,args:=#[x],argTypes:=#[t] }) ty (.int .i64 i.length):=.mk fun d pos after gd a ha hc w1 _=>by
 have hr:=run_len_string (P:=P) w1 t ty ⟨i.toArray⟩ (NT ht);simp [execOp,resolve,invoke,builtin,h a ha hc,hr,ByteArray.size,goInt]
theorem OB{t:Aw}{x y:A7}{l:List UInt8}{k:IntKind}{i:Int}(ht:Ni P t=true)(h:Bz n σ c x (Co l))(h':Bz n σ c y (.int k i))(hi:c→0≤i∧i<l.length) :
 DB P n σ c wb (.index t x y) ty (.int .u8 (l.getD i.toNat 0).toNat):=.mk fun d pos after gd a ha hc w1 _=>by
 obtain ⟨h0,h1⟩:=hi hc;have aa:i.toNat<l.length:=by omega
 have hg:(⟨l.toArray⟩:ByteArray)[i.toNat]? = some l[i.toNat]:=by
  rw [ByteArray.getElem?_lt' _ _ (by simpa [ByteArray.size] using aa)];rfl
 simp [execOp,h a ha hc,h' a ha hc,Instr.index,asIntOf,run_underlying (NT ht),h0,hg,Jb,aa]
theorem QT{t:Aw}{x y z:A7}{l:List UInt8}{k k':IntKind}{i j:Int}(ht:Ni P t=true)(h:Bz n σ c x (Co l))(h':Bz n σ c y (.int k i))(aa:Bz n σ c z (.int k' j))(hi:c→0≤i∧i≤j∧j≤l.length) :
 DB P n σ c wb (.slice t x (some y) (some z) none) ty (Co ((l.drop i.toNat).take (j.toNat-i.toNat))):=.mk fun d pos after gd a ha hc w1 _=>by
 obtain ⟨h0,h1,h2⟩:=hi hc;have e1:(0≤j∧j≤((⟨l.toArray⟩:ByteArray).size:Int)):=by simp [ByteArray.size];omega
 have e2:(0≤i∧i≤(j.toNat:Int)):=by omega
 simp only [execOp,h a ha hc,h' a ha hc,aa a ha hc,Instr.sliceAt,FP,Gg,Sem.run_bind,run_underlying (NT ht),Ez];simp [Instr.slice,run_underlying (NT ht),Instr.sliceBounds,Instr.sliceBound,asIntOf,e1,e2,ByteArray.extract_mk];intro hh;omega
theorem dX{t:Aw}{x y:A7}{l:List UInt8}{k:IntKind}{i:Int}(ht:Ni P t=true)(h:Bz n σ c x (Co l))(h':Bz n σ c y (.int k i))(hi:c→0≤i∧i≤l.length) :
 DB P n σ c wb (.slice t x (some y) none none) ty (Co (l.drop i.toNat)):=.mk fun d pos after gd a ha hc w1 _=>by
 obtain ⟨h0,h2⟩:=hi hc;have e2:(0≤i∧i≤((⟨l.toArray⟩:ByteArray).size:Int)):=by simp [ByteArray.size];omega
 have e3:(l.drop i.toNat).take ((⟨l.toArray⟩:ByteArray).size-i.toNat)=l.drop i.toNat:=by
  rw [Jm];simp [ByteArray.size]
 simp only [execOp,h a ha hc,h' a ha hc,Instr.sliceAt,FP,Gg,Sem.run_bind,run_underlying (NT ht),Ez];simp [Instr.slice,run_underlying (NT ht),Instr.sliceBounds,Instr.sliceBound,asIntOf,e2,ByteArray.extract_mk,e3]
theorem Xm{t:Aw}{x z:A7}{l:List UInt8}{k':IntKind}{j:Int}(ht:Ni P t=true)(h:Bz n σ c x (Co l))(aa:Bz n σ c z (.int k' j))(hi:c→0≤j∧j≤l.length) :
 DB P n σ c wb (.slice t x none (some z) none) ty (Co (l.take j.toNat)):=.mk fun d pos after gd a ha hc w1 _=>by
 obtain ⟨h1,h2⟩:=hi hc;have e1:(0≤j∧j≤((⟨l.toArray⟩:ByteArray).size:Int)):=by simp [ByteArray.size];omega
 simp only [execOp,h a ha hc,aa a ha hc,Instr.sliceAt,FP,Gg,Sem.run_bind,run_underlying (NT ht),Ez];simp [Instr.slice,run_underlying (NT ht),Instr.sliceBounds,Instr.sliceBound,asIntOf,e1,ByteArray.extract_mk]
theorem JV{t e z aa:Nat}(h:FQ P t=some (e,z,aa)):P.underlying t=some (.slice e)∧∃ i,P.info? e=some i∧i.size=z∧i.bytes=aa:=by
 unfold FQ at h;split at h;rename_i e' he
 cases hi:P.info? e' with
 | none=>simp [hi] at h
 | some i =>
  simp only [hi,FP,Option.some.injEq,Prod.mk.injEq] at h;obtain ⟨rfl,h1,h2⟩:=h;exact ⟨he,i,hi,h1,h2⟩
 cases h
theorem LP{t e z aa:Nat}{x:A7}{b:Option Addr}{m q:Nat}(ht:FQ P t=some (e,z,aa))(h:Bz n σ c x (.slice b m q)):DB P n σ c wb (.call { callee:=.builtin .len,args:=#[x],argTypes:=#[t] }) ty (.int .i64 m):=.mk fun d pos after gd a ha hc w1 _=>by
 obtain ⟨hu,i,hi,hz,_⟩:=JV ht;have he:P.underlying t=some (.slice (P.elem t)):=by rw [hu];simp [Program.elem,hu]
 have hr:=run_len_slice (P:=P) w1 t ty b m q he;simp [execOp,resolve,invoke,builtin,h a ha hc,hr,goInt]
theorem JH{t e z aa:Nat}{x y:A7}{b o m q:Nat}{k:IntKind}{i:Int}(ht:FQ P t=some (e,z,aa))(h:Bz n σ c x (.slice (some ⟨b,o,none⟩) m q))(h':Bz n σ c y (.int k i))(hi:c→0≤i∧i<m) :
 DB P n σ c wb (.indexAddr t x y) ty (.pointer (some ⟨b,o+i.toNat*z,none⟩)):=.mk fun d pos after gd a ha hc w1 _=>by
 obtain ⟨hu,i',ab,hz,_⟩:=JV ht;obtain ⟨h0,h1⟩:=hi hc;simp [execOp,h a ha hc,h' a ha hc,Instr.indexAt,asIntOf,run_underlying hu,h0,h1,sizeOf,typeInfo,ab,hz,Addr.add_lit]
end
def Bx(P:BH)(f:FuncId)(args:Array Ak)(w:Ad)(G':Ak→Ad→Prop):Prop:=Calls P f args w fun e w'=>∃ v,e = .returned v∧G' v w'
theorem Bx.mono{P:BH}{f:FuncId}{args:Array Ak}{w:Ad}{G' R':Ak→Ad→Prop}(h:Bx P f args w G')(hr:∀ v w',G' v w'→R' v w'):Bx P f args w R' :=
 Calls.mono h fun _ _ ⟨v,e,k⟩=>⟨v,e,hr v _ k⟩
def Av(w:Ad)(b:Nat)(e:Aw)(l:List Ak):Prop:=w.heap[b]? = some (.cells l.toArray e (0,0))
theorem Av.lt{w:Ad}{b:Nat}{e:Aw}{l:List Ak}(h:Av w b e l):b<w.heap.size:=by
 rcases Ik b w.heap.size with ab|aa;exact ab;unfold Av at h;rw [Array.getElem?_eq_none aa] at h;cases h
theorem Av.row{w:Ad}{b:Nat}{e:Aw}{l:List Ak}(h:Av w b e l):Cv w b 0 l:=fun j v hj=>by
 unfold Av at h;simp [World.cell?,h,hj]
theorem Av.j{w:Ad}{b:Nat}{e:Aw}{l:List Ak}(h:Av w b e l){i:Nat}{v:Ak}(hi:l[i]? = some v):w.cell? ⟨b,i,none⟩=some v:=by
 have:=h.row i v hi;rwa [Ka] at this
theorem Av.a{w w1:Ad}{b:Nat}{e:Aw}{l:List Ak}(h:Av w b e l)(hg:G w w1):Av w1 b e l:=(hg.block h.lt).trans h
theorem Av.A{w w1:Ad}{b:Nat}{e:Aw}{l:List Ak}{row:Option Nat}(h:Av w b e l)(hg:w.grownBy w1 row)(aa:some b≠row):Av w1 b e l:=(hg.block b h.lt aa).trans h
structure Ks (w w1:Ad) (b:Nat) (e:Aw) (l:List Ak):Prop where
  j:b=w.heap.size
  p:Av w1 b e l
  g:G w w1
  size:w1.heap.size=w.heap.size+1
theorem Ks.ge{a w w1:Ad}{b:Nat}{e:Aw}{l:List Ak}(h:Ks w w1 b e l)(g:G a w):a.heap.size≤b:=by have:=g.size;have:=h.j;omega
theorem Ks.W{w w1:Ad}{b:Nat}{e:Aw}{l:List Ak}(h:Ks w w1 b e l){b':Nat}{e':Aw}{l':List Ak}(hB:Av w b' e' l'):b≠b':=by have:=hB.lt;have:=h.j;omega
theorem MJ(w:Ad)(e:Aw)(l:List Ak):Ks w (w.alloc (.cells l.toArray e)) w.heap.size e l :=
 ⟨rfl,by unfold Av;exact heap_alloc_new w _,(Below.refl _ _).alloc (DV _) _,by simp⟩
theorem G.I{w w1:Ad}(h:G w w1)(row:Option Nat):w.grownBy w1 row:=⟨h.os,h.tape,h.output,h.size,fun k hk _=>h.block hk⟩
section
variable (P:BH) (Z:List Bd→Act→Ad→Prop) (ops:List Oper) (cl:List Nat) (lv:List Bool) (W0:Ad) (n:Nat) (H':Act→Ad→Prop)
structure Bv (k:Nat) (l:List Oper) (σ:List Ce) (w:Ad):Prop where mk ::
  h:(∀ j o,l[j]? = some o→ops.toArray[k+j]? = some o)→∀ a,Cx n σ a→F7 P Z ops.toArray (Bw cl) (Ji lv) W0 H' (List.range' k l.length) a w
end
section
variable {P:BH} {Z:List Bd→Act→Ad→Prop} {ops:List Oper} {cl:List Nat} {lv:List Bool} {W0:Ad} {n:Nat} {H':Act→Ad→Prop} {k:Nat} {rest:List Oper} {σ:List Ce} {w:Ad} {d:Nat} {op:Op} {ty:Aw} {pos:String} {after:Array Edge} {v:Ak}
instance {l:List Oper}:CoeFun (Bv P Z ops cl lv W0 n H' k l σ w) fun _=>(∀ j o,l[j]? = some o→ops.toArray[k+j]? = some o)→∀ a,Cx n σ a→F7 P Z ops.toArray (Bw cl) (Ji lv) W0 H' (List.range' k l.length) a w:=⟨Bv.h⟩
theorem Al(h:∀ a,Cx n σ a→H' a w):Bv P Z ops cl lv W0 n H' k [] σ w:=.mk fun _ a ha=>h a ha
theorem FD{l:List Oper}(τ:List Ce)(hs:Hs τ σ)(h:Bv P Z ops cl lv W0 n H' k l τ w):Bv P Z ops cl lv W0 n H' k l σ w:=.mk fun hl a ha=>h hl a (ha.sub hs)
theorem J8{l:List Oper}{o:Oper}(hl:∀ j o',(o::l)[j]? = some o'→ops.toArray[k+j]? = some o'):ops.toArray[k]? = some o∧∀ j o',l[j]? = some o'→ops.toArray[k+1+j]? = some o' :=
 ⟨hl 0 o rfl,fun j o' h=>by have:=hl (j+1) o' h;rwa [show k+(j+1)=k+1+j by omega] at this⟩
theorem QF{d:Option Nat}{y:Nat→Option Bool}:Dt ⟨d,op,ty,pos,after,none⟩ y=true:=rfl
theorem Ep(hb:(Ap (Bw cl k) 0&&Ji lv k&&AN d n)=true)(hr:DB P n σ True w op ty v)(h:Bv P Z ops cl lv W0 n H' (k+1) rest ((d,True,v) :: σ) w) :
 Bv P Z ops cl lv W0 n H' k (⟨some d,op,ty,pos,after,none⟩::rest) σ w:=.mk fun hl a ha=>by
 obtain ⟨h0,h1⟩:=J8 hl;simp only [Bh] at hb;obtain ⟨⟨hc,hv⟩,hd⟩:=hb;rw [Cl,CQ];refine ⟨_,h0,?_⟩;have hc:=BM hc;rw [CP (.inl hc)];refine ⟨v,fun _ w1 hg=>?_,(fun hn=>by cases hn),h h1 _ (ha.put hd (fun _=>rfl) (fun hn=>absurd BN hn))⟩;have hg:=hg.resolve_left O;rw [CP hv] at hg;exact hr _ _ _ _ a ha BN w1 hg
theorem Jq(hb:(Ap (Bw cl k) 0 && !Ji lv k&&AN d n)=true)(hr:DB P n σ True W0 op ty v)(h:Bv P Z ops cl lv W0 n H' (k+1) rest ((d,True,v) :: σ) w) :
 Bv P Z ops cl lv W0 n H' k (⟨some d,op,ty,pos,after,none⟩::rest) σ w:=.mk fun hl a ha=>by
 obtain ⟨h0,h1⟩:=J8 hl;simp only [Bh,Bool.not_eq_true'] at hb;obtain ⟨⟨hc,hv⟩,hd⟩:=hb;rw [Cl,CQ];refine ⟨_,h0,?_⟩;have hc:=BM hc;rw [CP (.inl hc)];refine ⟨v,fun _ w1 hg=>?_,(fun hn=>by cases hn),h h1 _ (ha.put hd (fun _=>rfl) (fun hn=>absurd BN hn))⟩;have hg:=hg.resolve_left O;rw [CJ (by rw [hv];simp)] at hg;exact hr _ _ _ _ a ha BN w1 hg
theorem Nk{g t:Nat}{want b:Bool}{c0:Prop}{a:Act}(aa:((ops.toArray[g]?).bind (·.dst))=some t)(ab:Ey σ t=some (c0,.bool b))(ha:Cx n σ a){d:Option Nat} :
 Dt ⟨d,op,ty,pos,after,some (g,want)⟩ (yielded ops.toArray a.tmps)=true↔c0∧b=want:=by
 obtain ⟨h1,h2⟩:=ha.2.2 t c0 (.bool b) ab;unfold Dt yielded;simp only [aa,Option.bind_some];by_cases hc:c0;rw [h1 hc];simp [hc];rw [h2 hc];simp [hc,undef]
open Classical in
theorem BU{g t:Nat}{want b:Bool}{c0:Prop}(hb:(Ap (Bw cl k) 0&&Ji lv k&&AN d n)=true)(ac:((ops.toArray[g]?).bind (·.dst))=some t)(ab:Ey σ t=some (c0,.bool b))
 (hr:DB P n σ (c0∧b=want) w op ty v) (h:Bv P Z ops cl lv W0 n H' (k+1) rest ((d,c0∧b=want,v) :: σ) w) :
 Bv P Z ops cl lv W0 n H' k (⟨some d,op,ty,pos,after,some (g,want)⟩::rest) σ w:=.mk fun hl a ha=>by
 obtain ⟨h0,h1⟩:=J8 hl;simp only [Bh] at hb;obtain ⟨⟨hc,hv⟩,hd⟩:=hb;rw [Cl,CQ];refine ⟨_,h0,?_⟩;have hc:=BM hc;rw [CP (.inl hc)];have hw:=Nk (op:=op) (ty:=ty) (pos:=pos) (after:=after) (want:=want) (d:=some d) ac ab ha;refine ⟨if c0∧b=want then v else undef,fun aa w1 hg=>?_,fun hn=>?_,h h1 _ (ha.put hd (fun hh=>CP hh) (fun hh=>CJ hh))⟩;have hg:=hg.resolve_left O;rw [CP hv] at hg;rw [CP (hw.1 aa)];exact hr _ _ _ _ a ha (hw.1 aa) w1 hg;rw [CJ (fun hh=>by rw [hw.2 hh] at hn;cases hn)]
open Classical in
theorem cX{g t:Nat}{want b:Bool}{c0:Prop}(hb:(Ap (Bw cl k) 0 && !Ji lv k&&AN d n)=true)(ac:((ops.toArray[g]?).bind (·.dst))=some t)(ab:Ey σ t=some (c0,.bool b))
 (hr:DB P n σ (c0∧b=want) W0 op ty v) (h:Bv P Z ops cl lv W0 n H' (k+1) rest ((d,c0∧b=want,v) :: σ) w) :
 Bv P Z ops cl lv W0 n H' k (⟨some d,op,ty,pos,after,some (g,want)⟩::rest) σ w:=.mk fun hl a ha=>by
 obtain ⟨h0,h1⟩:=J8 hl;simp only [Bh,Bool.not_eq_true'] at hb;obtain ⟨⟨hc,hv⟩,hd⟩:=hb;rw [Cl,CQ];refine ⟨_,h0,?_⟩;have hc:=BM hc;rw [CP (.inl hc)];have hw:=Nk (op:=op) (ty:=ty) (pos:=pos) (after:=after) (want:=want) (d:=some d) ac ab ha;refine ⟨if c0∧b=want then v else undef,fun aa w1 hg=>?_,fun hn=>?_,h h1 _ (ha.put hd (fun hh=>CP hh) (fun hh=>CJ hh))⟩;have hg:=hg.resolve_left O;rw [CJ (by rw [hv];simp)] at hg;rw [CP (hw.1 aa)];exact hr _ _ _ _ a ha (hw.1 aa) w1 hg;rw [CJ (fun hh=>by rw [hw.2 hh] at hn;cases hn)]
theorem AG(hb:(Ap (Bw cl k) 3&&AN d n)=true)(hr:∀ wb,DB P n σ True wb op ty v)(h:Bv P Z ops cl lv W0 n H' (k+1) rest ((d,True,v) :: σ) w) :
 Bv P Z ops cl lv W0 n H' k (⟨some d,op,ty,pos,after,none⟩::rest) σ w:=.mk fun hl a ha=>by
 obtain ⟨h0,h1⟩:=J8 hl;simp only [Bh] at hb;rw [Cl,CQ];refine ⟨_,h0,?_⟩;rw [CP (.inr (BM hb.1))];exact ⟨v,fun _ w1 _=>hr w1 _ _ _ _ a ha BN w1 (G.refl _),(fun hn=>by cases hn),h h1 _ (ha.put hb.2 (fun _=>rfl) (fun hn=>absurd BN hn))⟩
open Classical in
theorem AD{g t:Nat}{want b:Bool}{c0:Prop}(hb:(Ap (Bw cl k) 3&&AN d n)=true)(ac:((ops.toArray[g]?).bind (·.dst))=some t)(ab:Ey σ t=some (c0,.bool b))
 (hr:∀ wb,DB P n σ (c0∧b=want) wb op ty v) (h:Bv P Z ops cl lv W0 n H' (k+1) rest ((d,c0∧b=want,v) :: σ) w) :
 Bv P Z ops cl lv W0 n H' k (⟨some d,op,ty,pos,after,some (g,want)⟩::rest) σ w:=.mk fun hl a ha=>by
 obtain ⟨h0,h1⟩:=J8 hl;simp only [Bh] at hb;rw [Cl,CQ];refine ⟨_,h0,?_⟩;rw [CP (.inr (BM hb.1))];have hw:=Nk (op:=op) (ty:=ty) (pos:=pos) (after:=after) (want:=want) (d:=some d) ac ab ha;refine ⟨if c0∧b=want then v else undef,fun aa w1 _=>?_,fun hn=>?_,h h1 _ (ha.put hb.2 (fun hh=>CP hh) (fun hh=>CJ hh))⟩;rw [CP (hw.1 aa)];exact hr w1 _ _ _ _ a ha (hw.1 aa) w1 (G.refl _);rw [CJ (fun hh=>by rw [hw.2 hh] at hn;cases hn)]
def VA(P:BH)(n:Nat)(σ:List Ce)(c:Prop)(w:Ad)(op:Op)(ty:Aw)(v:Ak)(w':Ad):Prop :=
 ∀ (d:Option Tmp) (pos:String) (after:Array Edge) (g:Option (Nat×Bool)) (a:Act),Cx n σ a→c→(execOp a.eval ⟨d,op,ty,pos,after,g⟩).run P w = .ok (.value v) w'
def wT(P:BH)(n:Nat)(σ:List Ce)(c:Prop)(w:Ad)(op:Op)(ty:Aw)(w':Ad):Prop :=
 ∀ (d:Option Tmp) (pos:String) (after:Array Edge) (g:Option (Nat×Bool)) (a:Act),Cx n σ a→c→(execOp a.eval ⟨d,op,ty,pos,after,g⟩).run P w = .ok .skip w'
def Ol(P:BH)(n:Nat)(σ:List Ce)(c:Prop)(w:Ad)(op:Op)(ty:Aw)(f:FuncId)(args:Array Ak):Prop :=
 ∀ (d:Option Tmp) (pos:String) (after:Array Edge) (g:Option (Nat×Bool)) (a:Act),Cx n σ a→c→(execOp a.eval ⟨d,op,ty,pos,after,g⟩).run P w = .ok (.enter f args) w
theorem Np{w':Ad}(hb:(!Ap (Bw cl k) 0 && !Ap (Bw cl k) 3&&AN d n)=true)(hr:VA P n σ True w op ty v w')(hg:Bw cl k=1→G w w')(h:Bv P Z ops cl lv W0 n H' (k+1) rest ((d,True,v) :: σ) w') :
 Bv P Z ops cl lv W0 n H' k (⟨some d,op,ty,pos,after,none⟩::rest) σ w:=.mk fun hl a ha=>by
 obtain ⟨h0,h1⟩:=J8 hl;simp only [Bh,Bool.not_eq_true'] at hb;rw [Cl,CQ];refine ⟨_,h0,?_⟩;rw [CJ (fun he=>by rcases he with he|he <;> rw [he] at hb <;> simp at hb),CP QF]
 exact .inl ⟨v,w',hr _ _ _ _ a ha BN,fun hh=>hg (by simpa using hh),h h1 _ (ha.put hb.2 (fun _=>rfl) (fun hn=>absurd BN hn))⟩
theorem Z6{w':Ad}(hb:Ap (Bw cl k) 2=true)(hr:wT P n σ True w op ty w')(h:Bv P Z ops cl lv W0 n H' (k+1) rest σ w') :
 Bv P Z ops cl lv W0 n H' k (⟨none,op,ty,pos,after,none⟩::rest) σ w:=.mk fun hl a ha=>by
 obtain ⟨h0,h1⟩:=J8 hl;have hc:=BM hb;rw [Cl,CQ];refine ⟨_,h0,?_⟩;rw [CJ O,CP QF];exact .inr (.inl ⟨w',hr _ _ _ _ a ha BN,fun hh=>by rw [hc] at hh;simp at hh,h h1 _ ha⟩)
theorem Fg{f:FuncId}{args:Array Ak}{G':Ak→Ad→Prop}(hb:(!Ap (Bw cl k) 0 && !Ap (Bw cl k) 3&&AN d n)=true)(hr:Ol P n σ True w op ty f args)(hC:Bx P f args w G')
 (h:∀ v w',G' v w'→(Bw cl k=1→G w w')∧Bv P Z ops cl lv W0 n H' (k+1) rest ((d,True,v) :: σ) w') :
 Bv P Z ops cl lv W0 n H' k (⟨some d,op,ty,pos,after,none⟩::rest) σ w:=.mk fun hl a ha=>by
 obtain ⟨h0,h1⟩:=J8 hl;simp only [Bh,Bool.not_eq_true'] at hb;rw [Cl,CQ];refine ⟨_,h0,?_⟩;rw [CJ (fun he=>by rcases he with he|he <;> rw [he] at hb <;> simp at hb),CP QF]
 refine .inr (.inr (.inl ⟨f,args,hr _ _ _ _ a ha BN,Calls.mono hC fun e w' ⟨v,he,hv⟩=>.inl ?_⟩));obtain ⟨q1,q2⟩:=h v w' hv;exact ⟨v,he,fun hh=>q1 (by simpa using hh),q2 h1 _ (ha.put hb.2 (fun _=>rfl) (fun hn=>absurd BN hn))⟩
theorem vI{g t:Nat}{want b:Bool}{c0:Prop}{f:FuncId}{args:Array Ak}{G':Ak→Ad→Prop}(hb:(!Ap (Bw cl k) 0 && !Ap (Bw cl k) 3&&AN d n)=true)
 (ab:((ops.toArray[g]?).bind (·.dst))=some t) (aa:Ey σ t=some (c0,.bool b)) (hr:c0∧b=want→Ol P n σ (c0∧b=want) w op ty f args) (hC:c0∧b=want→Bx P f args w G')
 (h:∀ v w',(c0∧b=want)→G' v w'→(Bw cl k=1→G w w')∧Bv P Z ops cl lv W0 n H' (k+1) rest ((d,c0∧b=want,v) :: σ) w')
 (h':¬ (c0∧b=want)→Bv P Z ops cl lv W0 n H' (k+1) rest ((d,c0∧b=want,undef) :: σ) w) :
 Bv P Z ops cl lv W0 n H' k (⟨some d,op,ty,pos,after,some (g,want)⟩::rest) σ w:=.mk fun hl a ha=>by
 obtain ⟨h0,h1⟩:=J8 hl;simp only [Bh,Bool.not_eq_true'] at hb;rw [Cl,CQ];have hw:=Nk (op:=op) (ty:=ty) (pos:=pos) (after:=after) (want:=want) (d:=some d) ab aa ha;refine ⟨_,h0,?_⟩;rw [CJ (fun he=>by rcases he with he|he <;> rw [he] at hb <;> simp at hb)]
 by_cases hh:c0∧b=want;rw [CP (hw.2 hh)];refine .inr (.inr (.inl ⟨f,args,hr hh _ _ _ _ a ha hh,Calls.mono (hC hh) fun e w' ⟨v,he,hv⟩=>.inl ?_⟩));obtain ⟨q1,q2⟩:=h v w' hh hv;exact ⟨v,he,fun hq=>q1 (by simpa using hq),q2 h1 _ (ha.put hb.2 (fun _=>rfl) (fun hn=>absurd hh hn))⟩;rw [CJ (fun hq=>hh (hw.1 hq))];exact h' hh h1 _ (ha.put hb.2 (fun hq=>absurd hq hh) (fun _=>rfl))
theorem F1{f:FuncId}{args:Array Ak}(hb:(!Ap (Bw cl k) 0 && !Ap (Bw cl k) 3&&AN d n)=true)(hr:Ol P n σ True w op ty f args)(hC:Bx P f args w fun u w'=>u=v∧G w w')
  (h:∀ w',G w w'→Bv P Z ops cl lv W0 n H' (k+1) rest ((d,True,v) :: σ) w') :
  Bv P Z ops cl lv W0 n H' k (⟨some d,op,ty,pos,after,none⟩::rest) σ w :=
 Fg hb hr hC fun u w' ⟨hu,hg⟩=>⟨fun _=>hg,by subst hu;exact h w' hg⟩
theorem E9{g t:Nat}{want b:Bool}{c0:Prop}{f:FuncId}{args:Array Ak}(hb:(!Ap (Bw cl k) 0 && !Ap (Bw cl k) 3&&AN d n)=true)(ab:((ops.toArray[g]?).bind (·.dst))=some t)(aa:Ey σ t=some (c0,.bool b))
 (hr:c0∧b=want→Ol P n σ (c0∧b=want) w op ty f args) (hC:c0∧b=want→Bx P f args w fun u w'=>u=v∧G w w')
 (h:∀ w',G w w'→Bv P Z ops cl lv W0 n H' (k+1) rest ((d,c0∧b=want,v) :: σ) w') :
 Bv P Z ops cl lv W0 n H' k (⟨some d,op,ty,pos,after,some (g,want)⟩::rest) σ w:=.mk fun hl a ha=>by
 obtain ⟨h0,h1⟩:=J8 hl;simp only [Bh,Bool.not_eq_true'] at hb;rw [Cl,CQ];have hw:=Nk (op:=op) (ty:=ty) (pos:=pos) (after:=after) (want:=want) (d:=some d) ab aa ha;refine ⟨_,h0,?_⟩;rw [CJ (fun he=>by rcases he with he|he <;> rw [he] at hb <;> simp at hb)]
 by_cases hh:c0∧b=want;rw [CP (hw.2 hh)];refine .inr (.inr (.inl ⟨f,args,hr hh _ _ _ _ a ha hh,Calls.mono (hC hh) fun e w' ⟨u,he,hu,hg⟩=>.inl ?_⟩));subst hu;exact ⟨u,he,fun _=>hg,h w' hg h1 _ (ha.put hb.2 (fun _=>rfl) (fun hn=>absurd hh hn))⟩;rw [CJ (fun hq=>hh (hw.1 hq))];exact h w (G.refl w) h1 _ (ha.put hb.2 (fun hq=>absurd hq hh) (fun _=>rfl))
theorem Ja{aa:Aw}{x:A7}{u:Ak}{l:List Ak}(hb:(!Ap (Bw cl k) 0 && !Ap (Bw cl k) 3&&AN d n)=true)(hx:Bz n σ True x u)(hl:u.cells=l.toArray)
  (h:∀ b w1,Ks w w1 b aa l→Bv P Z ops cl lv W0 n H' (k+1) rest ((d,True,.pointer (some ⟨b,0,none⟩)) :: σ) w1) :
  Bv P Z ops cl lv W0 n H' k (⟨some d,.box aa x,ty,pos,after,none⟩::rest) σ w :=
 Np hb (w':=w.alloc (.cells l.toArray aa)) (fun d pos after g a ha _=>by simp [execOp,hx a ha BN,Instr.box,newVar,newRow,hl]) (fun _=>(MJ w aa l).g) (h _ _ (MJ w aa l))
def Gc(P:BH)(t:Aw):Option Ak:=match P.info? t with|some i=>i.zero|none=>none
theorem Ox{t:Aw}{z:Ak}(h:Gc P t=some z):∃ i,P.info? t=some i∧i.zero=some z:=by
 unfold Gc at h;split at h;exact ⟨_,by assumption,h⟩;cases h
theorem EI{aa:Aw}{z:Ak}{l:List Ak}(hb:(!Ap (Bw cl k) 0 && !Ap (Bw cl k) 3&&AN d n)=true)(hz:Gc P aa=some z)(hl:z.cells=l.toArray)
 (h:∀ b w1,Ks w w1 b aa l→Bv P Z ops cl lv W0 n H' (k+1) rest ((d,True,.pointer (some ⟨b,0,none⟩)) :: σ) w1) :
 Bv P Z ops cl lv W0 n H' k (⟨some d,.alloc aa,ty,pos,after,none⟩::rest) σ w:=by
 obtain ⟨i,hi,ab⟩:=Ox hz;exact Np hb (w':=w.alloc (.cells l.toArray aa)) (fun d pos after g a ha _=>by simp [execOp,Instr.alloc,zeroValue,typeInfo,hi,ab,newVar,newRow,hl]) (fun _=>(MJ w aa l).g) (h _ _ (MJ w aa l))
def MF(n:Nat)(σ:List Ce)(c:Prop)(ps:Array (Nat×A7))(vs:List (Nat×Ak)):Prop:=∀ a,Cx n σ a→c→(ps.map fun p=>(p.1,a.eval p.2)).toList=vs
theorem Ia{n:Nat}{σ:List Ce}{c:Prop}:MF n σ c #[] []:=fun _ _ _=>by simp
theorem JG{n:Nat}{σ:List Ce}{c:Prop}{i:Nat}{x:A7}{u:Ak}{ps:List (Nat×A7)}{vs:List (Nat×Ak)}(h:Bz n σ c x u)(k:MF n σ c ps.toArray vs):MF n σ c ((i,x)::ps).toArray ((i,u)::vs):=fun a ha hc=>by
 have:=k a ha hc;simp only [HJ,List.toList_toArray] at this ⊢;rw [Gx,this,h a ha hc]
def Lj(P:BH)(t:Aw):Option (List (Nat×Nat)):=match P.underlying t with
 | some (.struct fs)=>fs.toList.mapM fun f=>(P.info? f.type).map fun i=>(f.offset,i.size)
 | _=>none
theorem Yu(w:Ad):∀ (fs:List Field) (ps:List (Nat×Nat)),(fs.mapM fun f=>(P.info? f.type).map fun i=>(f.offset,i.size))=some ps→
  (fs.mapM (fun f=>(do pure (f.offset,← sizeOf f.type):Sem (Nat×Nat)))).run P w = .ok ps w
 | [],ps,h=>by simp at h;subst h;rfl
 | f::fs,ps,h=>by
  rw [HA] at h
  cases hi:P.info? f.type with
  | none=>rw [hi] at h;simp at h
  | some i =>
   rw [hi] at h
   cases hr:(fs.mapM fun f=>(P.info? f.type).map fun i=>(f.offset,i.size)) with
   | none=>rw [hr] at h;simp at h
   | some qs =>
    rw [hr] at h;simp at h;subst h;have:=Yu w fs qs hr;rw [HA];simp [sizeOf,typeInfo,hi] at this ⊢;rw [this];simp
def NW(pl:Nat→Option (Nat×Nat)):List Ak→List (Nat×Ak)→Option (List Ak)
 | cs,[]=>some cs
 | cs,(i,v)::rest=>match pl i with
  | none=>none
  | some (off,z)=>if Ap v.cells.toList.length z&&DF (off+z) cs.length then NW pl (cs.take off++v.cells.toList++cs.drop (off+z)) rest else none
theorem eZ:∀ (vs:List Ak) (off i:Nat) (cs:List Ak),off+i+vs.length≤cs.length→
  (vs.zipIdx i).foldl (fun (cs:Array Ak) (p:Ak×Nat)=>cs.setIfInBounds (off+p.2) p.1) cs.toArray=(cs.take (off+i)++vs++cs.drop (off+i+vs.length)).toArray
 | [],off,i,cs,_=>by simp
 | v::vs,off,i,cs,h=>by
  simp only [Cl] at h;rw [List.zipIdx_cons,List.foldl_cons];have e:(cs.toArray.setIfInBounds (off+i) v)=(cs.set (off+i) v).toArray:=by simp
  simp only [e];rw [eZ vs off (i+1) _ (by simp;omega)];have aa:off+i<cs.length:=by omega
  have e1:(cs.set (off+i) v).take (off+(i+1))=cs.take (off+i)++[v]:=by
   rw [show off+(i+1)=(off+i)+1 by omega,List.take_add_one,RZ (DV _)];simp [aa]
  have e2:(cs.set (off+i) v).drop (off+(i+1)+vs.length)=cs.drop (off+i+(v::vs).length):=by
   rw [QQ O];congr 1;simp;omega
  rw [e1,e2];simp [Gz]
theorem SQ(pl:Nat→Option (Nat×Nat)):∀ (vs:List (Nat×Ak)) (cs l:List Ak),NW pl cs vs=some l→Instr.fill pl cs.toArray vs=some l.toArray
 | [],cs,l,h=>by injection h with h;subst h;rfl
 | (i,v)::rest,cs,l,h=>by
  unfold NW at h;unfold Instr.fill;split at h;cases h;rename_i aa z hp;split at h;rename_i hc;simp only [Bh] at hc;have h1:=BM hc.1;have h2:=Dg hc.2;simp only [hp];have h3:v.cells.size=z:=by simpa using h1
  rw [CJ (by simp [h3];omega)]
  have e:v.cells.zipIdx.foldl (fun cs x=>cs.setIfInBounds (aa+x.2) x.1) cs.toArray=(cs.take aa++v.cells.toList++cs.drop (aa+z)).toArray:=by
   have:=eZ v.cells.toList aa 0 cs (by rw [h1];omega);rw [h1] at this;simp only [Nat.add_zero] at this;rw [← this,← Array.foldl_toList,Array.toList_zipIdx]
  have e':=SQ pl rest _ l h;rw [← e] at e';exact e';cases h
theorem Jz{c:Prop}{wb:Ad}{t:Aw}{ps:Array (Nat×A7)}{vs:List (Nat×Ak)}{pl:List (Nat×Nat)}{z:Ak}{zl:List Ak}(l:List Ak)(hz:Gc P t=some z)(ag:z.cells=zl.toArray)(hp:Lj P t=some pl)(hx:MF n σ c ps vs)
 (hf:NW (fun (i:Nat)=>pl[i]?) zl vs=some l):DB P n σ c wb (.build t ps) ty (.agg l.toArray):=.mk fun d pos after g a ha hc w1 _=>by
 have hf:=SQ _ _ _ _ hf;rw [← ag] at hf;obtain ⟨i,hi,ac⟩:=Ox hz;unfold Lj at hp;split at hp;rename_i fs ae;have af:=Yu (P:=P) w1 fs.toList pl hp
 have ab:(fs.mapM (fun f=>(do pure (f.offset,← sizeOf f.type):Sem (Nat×Nat)))).run P w1 = .ok pl.toArray w1:=by
  rw [HN];simp only [Sem.run_map,af,Ez]
 have ad:=hx a ha hc;simp only [execOp,Instr.build,Sem.run_bind,zeroValue,typeInfo,run_program,Ez,hi,ac,Sem.run_pure,run_underlying ae];rw [ab];simp only [Ez];have aa:(fun (x:Nat)=>pl.toArray[x]?)=(fun (i:Nat)=>pl[i]?):=by funext i;simp
 rw [aa,ad,hf];rfl;cases hp
def Qm(z:Nat):Nat→List (Nat×Ak)→Option (List Ak)
 | _,[]=>some []
 | k,(i,v)::rest=>if Ap i k&&Ap v.cells.toList.length z then (Qm z (k+1) rest).map (v.cells.toList ++ ·) else none
theorem Wl(z:Nat):∀ (vs:List (Nat×Ak)) (k:Nat) (done cs l:List Ak),Qm z k vs=some l→done.length=k*z→cs.length=(k+vs.length)*z→cs.take (k*z)=done→
  NW (fun i=>some (i*z,z)) cs vs=some (done++l)
 | [],k,done,cs,l,h,h1,h2,h3=>by
  injection h with h;subst h;unfold NW;rw [← h3,Ih,Jm (by rw [h2];simp)]
 | (i,v)::rest,k,done,cs,l,h,h1,h2,h3=>by
  unfold Qm at h;split at h
  ·rename_i hc
   simp only [Bh] at hc;have e1:=BM hc.1;have e2:=BM hc.2;subst e1
   cases hr:Qm z (i+1) rest with
   | none=>rw [hr] at h;cases h
   | some l' =>
    rw [hr] at h;injection h with h;subst h;unfold NW;simp only [Cl] at h2;have hm:(i+1)*z=i*z+z:=by rw [HZ,Nat.one_mul]
    have aa:(i+(rest.length+1))*z=i*z+z+rest.length*z:=by rw [HZ,HZ,Nat.one_mul];omega
    have ab:i*z+z≤cs.length:=by rw [h2,aa];omega
    dsimp only;rw [CP (by rw [Bh];exact ⟨hc.2,QV ab⟩)]
    have:=Wl z rest (i+1) (done++v.cells.toList) (cs.take (i*z)++v.cells.toList++cs.drop (i*z+z)) l' hr (by rw [FB,h1,e2,hm]) (by
     rw [FB,FB,e2,J9,List.length_drop,h2,aa,HZ,hm];omega) (by
     rw [hm,List.take_append_of_le_length (by rw [FB,e2,J9];omega),Jm (by rw [FB,e2,J9];omega),h3])
    rw [this,Gz]
  · cases h
theorem Fo{t e z ac m:Nat}{ps:Array (Nat×A7)}{vs:List (Nat×Ak)}{zv:Ak}(l:List Ak)(hb:(!Ap (Bw cl k) 0 && !Ap (Bw cl k) 3&&AN d n)=true)(ht:FQ P t=some (e,z,ac))(hz:Gc P e=some zv)
 (hx:MF n σ True ps vs) (hm:(DF (m*z) 16777216 && !Ap (m*z) 0&&Ap vs.length m)=true) (hf:Qm z 0 vs=some l)
 (h:∀ b w1,Ks w w1 b e l→Bv P Z ops cl lv W0 n H' (k+1) rest ((d,True,.slice (some ⟨b,0,none⟩) m m) :: σ) w1) :
 Bv P Z ops cl lv W0 n H' k (⟨some d,.buildSlice t m ps,ty,pos,after,none⟩::rest) σ w:=by
 obtain ⟨hu,i,hi,ah,_⟩:=JV ht;obtain ⟨i',ai,ab⟩:=Ox hz;obtain rfl:i=i':=EM (hi.symm.trans ai);simp only [Bh,Bool.not_eq_true'] at hm;have af:¬ (m*z>2 ^ 24):=by have:=Dg hm.1.1;omega
 have ae:¬ (m*z=0):=by intro he;rw [he] at hm;simp at hm
 have ag:=BM hm.2
 have aa:Instr.fill (fun i=>some (i*z,z)) ((Array.range (m*z)).map (zv.cells[· % zv.cells.size]!)) vs=some l.toArray:=by
  have h1:=Wl z vs 0 [] ((Array.range (m*z)).map (zv.cells[· % zv.cells.size]!)).toList l hf BI (by simp [ag]) BI;have:=SQ _ _ _ _ h1;rwa [Ke] at this
 refine Np hb (w':=w.alloc (.cells l.toArray e)) (fun d pos after g a ha _=>?_) (fun _=>(MJ w e l).g) (h _ _ (MJ w e l));have ad:=hx a ha BN;simp only [execOp,Instr.buildSlice,Sem.run_bind,run_underlying hu,Ez,sizeOf,typeInfo,run_program,hi,Sem.run_pure,ah,CJ af,CJ ae,zeroValue,ab];rw [ad,aa];simp [newRow]
def Bt(P:BH)(f:FuncId):Bool:=match P.funcs[f]? with|some fn=>!(fn.name == "runtime.NumGoroutine")&&fn.body.isSome|none=>false
def Kj(n:Nat)(σ:List Ce)(c:Prop)(xs:List A7)(vs:List Ak):Prop:=∀ a,Cx n σ a→c→xs.map a.eval=vs
theorem CY{n:Nat}{σ:List Ce}{c:Prop}:Kj n σ c [] []:=fun _ _ _=>rfl
theorem Cu{n:Nat}{σ:List Ce}{c:Prop}{x:A7}{u:Ak}{xs:List A7}{vs:List Ak}(h:Bz n σ c x u)(k:Kj n σ c xs vs):Kj n σ c (x::xs) (u::vs):=fun a ha hc=>by
 rw [Gx,h a ha hc,k a ha hc]
theorem Qj{f:FuncId}(hf:Bt P f=true)(args:Array Ak)(w:Ad):(callFunc f args).run P w = .ok (.enter f args) w:=by
 unfold Bt at hf;split at hf;rename_i fn hfn;simp only [Bh,Bool.not_eq_true'] at hf;obtain ⟨h1,h2⟩:=hf;have h3:¬ fn.body=none:=by intro hb;rw [hb] at h2;cases h2
 have h4:¬ fn.name = "runtime.NumGoroutine" := by simpa using h1
 simp [callFunc,hfn,h4,h3];cases hf
theorem BK{c:Prop}{x:A7}{f:FuncId}{fs cs:Array Ak}{xs:List A7}{vs:List Ak}{aa:Array Aw}{args:Array Ak}(hf:Bt P f=true)(h:Bz n σ c x (.func (.func f) fs cs))(hx:Kj n σ c xs vs)
 (ha:fs++vs.toArray++cs=args):Ol P n σ c w (.call { callee:=.value x,args:=xs.toArray,argTypes:=aa }) ty f args:=fun d pos after g a hk hc=>by
 have h1:=hx a hk hc;have h2:xs.toArray.map a.eval=vs.toArray:=by rw [HJ,h1]
 simp only [execOp,resolve,h a hk hc,h2,Deferred.ofValue,Sem.run_bind,Sem.run_pure,Ez,invoke,ha];exact Qj hf args w
def LZ(l:List Ak):Bool:=l.all (·.oneCell')
theorem QO{l:List Ak}(h:LZ l=true):∀ u∈l,u.oneCell'=true:=fun u hu=>Dv.1 h u hu
theorem jB{b o:Nat}{e:Aw}{l:List Ak}{v:Ak}(hB:Av w b e l)(ho:o<l.length)(hv:v.oneCell'=true) :
 (store ⟨b,o,none⟩ v).run P w = .ok () (w.setCell ⟨b,o,none⟩ v)∧Av (w.setCell ⟨b,o,none⟩ v) b e (l.set o v)∧w.grownBy (w.setCell ⟨b,o,none⟩ v) (some b):=by
 have hc:w.cell? ⟨b,o,none⟩=some l[o]:=hB.j (List.getElem?_eq_getElem ho);have aa:w.frozen? ⟨b,o,none⟩=false:=by unfold Av at hB;simp [World.frozen?,hB]
 refine ⟨?_,?_,⟨rfl,rfl,rfl,by simp,fun k hk ab=>Below.heap_setCell _ _ _ _ (fun he=>ab (by rw [he]))⟩⟩;rw [run_store P w _ v _ hv,hc];simp [aa];unfold Av at hB ⊢;simp [World.setCell,Array.getElem?_modify,hB]
theorem PV{a b c:Ad}{row:Option Nat}(h:a.grownBy b row)(k:b.grownBy c row):a.grownBy c row :=
 ⟨k.os.trans h.os,k.tape.trans h.tape,k.output.trans h.output,Nat.le_trans h.size k.size,fun i hi hn=>(k.block i (Nat.lt_of_lt_of_le hi h.size) hn).trans (h.block i hi hn)⟩
theorem Sl{b e:Nat}:∀ (vs:List Ak) (o i:Nat) (l:List Ak) (w:Ad),Av w b e l→o+i+vs.length≤l.length→(∀ u∈vs,u.oneCell'=true)→
  ∃ w',(storeCells ⟨b,o,none⟩ vs i).run P w = .ok () w'∧Av w' b e (l.take (o+i)++vs++l.drop (o+i+vs.length))∧w.grownBy w' (some b)∧w'.heap.size=w.heap.size
 | [],o,i,l,w,hB,_,_=>⟨w,rfl,by simpa using hB,⟨rfl,rfl,rfl,DV _,fun _ _ _=>rfl⟩,rfl⟩
 | v::vs,o,i,l,w,hB,hl,h1=>by
  simp only [Cl] at hl;obtain ⟨q1,q2,q3⟩:=jB (P:=P) hB (o:=o+i) O (h1 v CW);obtain ⟨w',r1,r2,r3,r4⟩:=Sl vs o (i+1) (l.set (o+i) v) _ q2 (by simp;omega) (fun u hu=>h1 u (Eb _ hu));refine ⟨w',?_,?_,PV q3 r3,by rw [r4];simp⟩;simp only [storeCells,Sem.run_bind,Addr.add_lit,q1,Ez];exact r1;have aa:o+i<l.length:=by omega
  have e1:(l.set (o+i) v).take (o+(i+1))=l.take (o+i)++[v]:=by
   rw [show o+(i+1)=(o+i)+1 by omega,List.take_add_one,RZ (DV _)];simp [aa]
  have e2:(l.set (o+i) v).drop (o+(i+1)+vs.length)=l.drop (o+i+(v::vs).length):=by
   rw [QQ O];congr 1;simp;omega
  rw [e1,e2] at r2;simpa [Gz] using r2
theorem CZ{t:Aw}{x y:A7}{b o z:Nat}{e:Aw}{u:Ak}{l vs:List Ak}(hb:Ap (Bw cl k) 2=true)(hs:Ir P t=some z)(hx:Bz n σ True x (.pointer (some ⟨b,o,none⟩)))(hy:Bz n σ True y u)
 (hu:u.cells=vs.toArray) (hz:vs.length=z) (hB:Av w b e l) (aa:DF (o+vs.length) l.length=true) (h1:LZ vs=true)
 (h:∀ w1,w.grownBy w1 (some b)→w1.heap.size=w.heap.size→Av w1 b e (l.take o++vs++l.drop (o+vs.length))→Bv P Z ops cl lv W0 n H' (k+1) rest σ w1) :
 Bv P Z ops cl lv W0 n H' k (⟨none,.store t x y,ty,pos,after,none⟩::rest) σ w:=by
 obtain ⟨w1,r1,r2,r3,r4⟩:=Sl (P:=P) vs o 0 l w hB (by have:=Dg aa;omega) (QO h1);refine Z6 hb (w':=w1) (fun d pos after g a ha _=>?_) (h w1 r3 r4 (by simpa using r2));unfold Ir at hs;obtain ⟨i,hi,ac⟩:=Option.map_eq_some_iff.1 hs;have ab:(sizeOf t).run P w = .ok vs.length w:=by simp [sizeOf,typeInfo,hi,ac,hz]
 simp [execOp,hx a ha BN,hy a ha BN,Instr.storeAt,Instr.sureAddr,storeVar,ab,hu,r1]
theorem Hb{t:Aw}{x y:A7}{b z:Nat}{e:Aw}{u:Ak}{l vs:List Ak}(hb:Ap (Bw cl k) 2=true)(hs:Ir P t=some z)(hx:Bz n σ True x (.pointer (some ⟨b,0,none⟩)))(hy:Bz n σ True y u)
 (hu:u.cells=vs.toArray) (hz:vs.length=z) (hB:Av w b e l) (aa:Ap vs.length l.length=true) (h1:LZ vs=true)
 (h:∀ w1,w.grownBy w1 (some b)→w1.heap.size=w.heap.size→Av w1 b e vs→Bv P Z ops cl lv W0 n H' (k+1) rest σ w1) :
 Bv P Z ops cl lv W0 n H' k (⟨none,.store t x y,ty,pos,after,none⟩::rest) σ w:=by
 have hf:=BM aa;refine CZ hb hs hx hy hu hz hB (by rw [Ka,hf];exact Nat.ble_self_eq_true _) h1 fun w1 h2 h3 h4=>h w1 h2 h3 ?_;rw [Ka,hf,List.drop_length,List.take_zero,LD,Ih] at h4;exact h4
theorem H1{t:Aw}{x y:A7}{b o:Nat}{e:Aw}{u v:Ak}{l:List Ak}(hb:Ap (Bw cl k) 2=true)(hs:Ir P t=some 1)(hx:Bz n σ True x (.pointer (some ⟨b,o,none⟩)))(hy:Bz n σ True y u)
 (hu:u.cells = #[v]) (hB:Av w b e l) (aa:AN o l.length=true) (h1:v.oneCell'=true)
 (h:∀ w1,w.grownBy w1 (some b)→w1.heap.size=w.heap.size→Av w1 b e (l.set o v)→Bv P Z ops cl lv W0 n H' (k+1) rest σ w1) :
 Bv P Z ops cl lv W0 n H' k (⟨none,.store t x y,ty,pos,after,none⟩::rest) σ w:=by
 have hf:o<l.length:=Dg aa;refine CZ (vs:=[v]) hb hs hx hy hu rfl hB (Nat.ble_eq▸hf) (by simp [LZ,h1]) fun w1 h2 h3 h4=>h w1 h2 h3 ?_
 have e1:l.set o v=l.take o++[v]++l.drop (o+[v].length):=by
  rw [List.set_eq_take_append_cons_drop,CP hf];simp
 rw [e1];exact h4
theorem ID{t e z aa base m q q':Nat}{x y:A7}{s zv:Ak}{xs news:List Ak}{b' o':Nat}(hb:(Ap (Bw cl k) 2&&AN d n)=true)(ht:FQ P t=some (e,z,aa))(an:Gc P e=some zv)
 (ag:zv.cells.size=z) (al:0<z) (hx:Bz n σ True x s) (ad:w.ownsRow base e z s m xs) (hy:Bz n σ True y (.slice (some ⟨b',o',none⟩) q q')) (hl:news.length=q*z) (hn:Cv w b' o' news) (h1:LZ news=true)
 (ai:m+q≤maxLen) (ah:(m+q)*aa≤140737488355328) (ab:base≤w.heap.size)
 (h:∀ a' c' w',w'.ownsRow base e z (.slice a' (m+q) c') (m+q) (xs++news)→w.grownBy w' s.ownBlock→((Value.slice a' (m+q) c').ownBlock=s.ownBlock∨(Value.slice a' (m+q) c').ownBlock=some w.heap.size)→Bv P Z ops cl lv W0 n H' (k+1) rest ((d,True,.slice a' (m+q) c') :: σ) w') :
 Bv P Z ops cl lv W0 n H' k (⟨some d,.call { callee:=.builtin .append,args:=#[x,y],argTypes:=#[t,t] },ty,pos,after,none⟩::rest) σ w:=by
 obtain ⟨hu,i,hi,af,ac⟩:=JV ht;obtain ⟨i',aj,ae⟩:=Ox an;obtain rfl:i=i':=EM (hi.symm.trans aj);simp only [Bh] at hb;have hc:=BM hb.1;obtain ⟨s',w',r1,r2,r3,_,r5⟩:=run_append_own_at (P:=P) w base t ty e i zv z aa hu hi ae af ac ag al s m xs ad ⟨b',o',none⟩ q q' news hl (fun j u hj=>by rw [Addr.add_lit];exact hn j u hj) (QO h1) ai ah ab
 obtain ⟨a',c',ak⟩:∃ a' c',s' = .slice a' (m+q) c':=by
  rcases r2.2 with ⟨q1,q2⟩|⟨g,am,ao,q1,_⟩;exact ⟨none,0,by rw [q1,q2]⟩;exact ⟨_,am,q1⟩
 subst ak;refine Np (w':=w') (by rw [hc,hb.2];rfl) (fun d pos after g a ha _=>?_) (fun hh=>O) (h a' c' w' r2 r3 r5);simp only [execOp,resolve,invoke,builtin,Sem.run_bind,Sem.run_pure,Ez,HJ,Gx,List.map_nil,hx a ha BN,hy a ha BN,r1]
end
def Ls(N:Act→Ad→Prop)(X:List (Nat×(Act→Ad→Prop)))(T:Act→Ad→Prop)(B:List Bd→Ad→Prop):Exit→Act→Ad→Prop
 | .normal,a,w=>N a w
 | .ret,a,w=>T a w
 | .exit id,a,w=>match X.lookup id with|some k=>k a w|none=>False
 | .panic ch,a,w=>a.defers=[]∧B ch w
 | _,_,_=>False
@[reducible] def Ll(B:List Bd→Ad→Prop)(ch:List Bd)(a:Act)(w:Ad):Prop:=a.defers=[]∧B ch w
structure EW (P:BH) (B:List Bd→Ad→Prop) (n:Nat) (c:Code) (N:Act→Ad→Prop) (X:List (Nat×(Act→Ad→Prop))) (T:Act→Ad→Prop) (σ:List Ce) (w:Ad):Prop where mk ::
  h:∀ a,Cx n σ a→c.wp P (Ls N X T B) a w
@[reducible] def St(P:BH)(n:Nat)(c:Code)(N:Act→Ad→Prop)(X:List (Nat×(Act→Ad→Prop)))(T:Act→Ad→Prop)(σ:List Ce)(w:Ad):Prop:=EW P (fun _ _=>False) n c N X T σ w
section
variable {P:BH} {B:List Bd→Ad→Prop} {n:Nat} {N T:Act→Ad→Prop} {X:List (Nat×(Act→Ad→Prop))} {σ:List Ce} {w:Ad}
instance {c:Code}:CoeFun (EW P B n c N X T σ w) fun _=>∀ a,Cx n σ a→c.wp P (Ls N X T B) a w:=⟨EW.h⟩
theorem Wg{c:Code}(τ:List Ce)(hs:Hs τ σ)(h:EW P B n c N X T τ w):EW P B n c N X T σ w:=.mk fun a ha=>h a (ha.sub hs)
theorem KR{x y:Code}(h:∀ H':Act→Ad→Prop,(∀ τ u,EW P B n y N X T τ u→∀ a,Cx n τ a→H' a u)→EW P B n x H' X T σ w):EW P B n (.seq x y) N X T σ w:=.mk fun a ha=>by
 refine wp_seq (Code.wp_mono (fun e a w q=>?_) (h (fun a w=>y.wp P (Ls N X T B) a w) (fun τ u hy a ha=>hy a ha) a ha));cases e <;> exact q
theorem CU(h:∀ a,Cx n σ a→N a w):EW P B n .skip N X T σ w:=.mk fun a ha=>wp_skip (h a ha)
theorem DZ(h:∀ a,Cx n σ a→T a w):EW P B n .ret N X T σ w:=.mk fun a ha=>wp_ret (h a ha)
theorem OD{id:Nat}{k:Act→Ad→Prop}(hk:X.lookup id=some k)(h:∀ a,Cx n σ a→k a w):EW P B n (.exit id) N X T σ w:=.mk fun a ha=>wp_exit (by
 show match X.lookup id with|some k=>k a w|none=>False
 rw [hk];exact h a ha)
theorem DY{id:Nat}{c:Code}(h:EW P B n c N ((id,N)::X) T σ w):EW P B n (.block id c) N X T σ w:=.mk fun a ha=>by
 refine wp_block (Code.wp_mono (fun e a w q=>?_) (h a ha))
 cases e with
 | exit id' =>
  simp only [Exit.inBlock];by_cases he:id'=id;subst he;rw [CP rfl];simpa [Ls,List.lookup] using q;rw [CJ he];simp only [Ls] at q ⊢;rw [List.lookup_cons] at q;have:(id' == id)=false:=by simpa using he
  rw [this] at q;exact q
 | _=>exact q
theorem TM{x:A7}{b:Bool}{p q:Code}(hx:Bz n σ True x (.bool b))(h1:b=true→EW P B n p N X T σ w)(h2:b=false→EW P B n q N X T σ w):EW P B n (.cond x p q) N X T σ w:=.mk fun a ha =>
 wp_cond_split (hx a ha BN) (fun h=>h1 h a ha) (fun h=>h2 h a ha)
theorem Rr{t:Nat}{g:Bool}{y:Code}{b0:Bool}(τ:List Ce)(hs:Hs ((t,True,.bool g) :: τ) σ)(hx:Ey σ t=some (True,.bool g))
 (hy:g=false→EW P B n y (fun a w'=>Cx n ((t,True,.bool b0) :: τ) a∧w'=w) X T σ w) (hN:∀ a,Cx n ((t,True,.bool (g || b0)) :: τ) a→N a w) :
 EW P B n (.cond (.tmp t) .skip y) N X T σ w:=by
 refine TM (H hx) (fun hg=>?_) (fun hg=>?_);subst hg;exact CU fun a ha=>hN a (by simpa using ha.sub hs);refine .mk fun a ha=>?_;refine Code.wp_mono (fun e a' w' q=>?_) (hy hg a ha)
 cases e with
 | normal=>obtain ⟨q1,rfl⟩:=q;subst hg;exact hN a' (by simpa using q1)
 | _=>exact q
theorem JZ{id:Nat}{l:List Oper}(cl:List Nat)(h:Bv P (Ll B) l cl [] w n N 0 l σ w):EW P B n (.region id l.toArray false) N X T σ w:=.mk fun a ha=>by
 have h1:=h (fun j o ho=>by simpa using ho) a ha;have e:Ji []=fun _=>true:=by funext i;simp [Ji]
 rw [e] at h1
 have h2:F7 P (Ll B) l.toArray (Bw cl) (fun _=>true) w (fun a w=>(Ls N X T B) .normal a w) (Cr l.toArray.size) a w:=by
  rw [List.range_eq_range'];simpa [Ls] using h1
 exact wpIn_wide.1 (dZ (ρ:=none) (fun _ _ _ h=>h) h2)
theorem IH{id:Nat}{l:List Oper}(cl:List Nat)(lv:List Bool)(ms:List Nat)(hm:P.follows .mixedOrders=true)(aa:SX l cl lv ms=true)
 (h:Bv P Tx l cl lv w.drew n N 0 l σ w.drew):EW P B n (.region id l.toArray true) N X T σ w:=.mk fun a ha=>by
 have h1:=h (fun j o ho=>by simpa using ho) a ha
 have h2:F7 P Tx l.toArray (Bw cl) (Ji lv) w.drew (fun a w=>(Ls N X T B) .normal a w) (Cr l.toArray.size) a w.drew:=by
  rw [List.range_eq_range'];simpa [Ls] using h1
 exact Aag (jV aa) hm h2
def Wa:List Oper→List Nat→List Nat
 | [],m=>m
 | o::r,m=>Wa r (m++[NO m o.after.toList])
theorem C9{id:Nat}{l:List Oper}(cl:List Nat)(h:Bv P Tx l cl [] w.drew n N 0 l σ w.drew)(hm:P.follows .mixedOrders=true:=by exact CI)(hok:SX l cl [] (Wa l [])=true:=by kernel_rfl):EW P B n (.region id l.toArray true) N X T σ w:=IH cl [] (Wa l []) hm hok h
theorem QP{c:Code}{α:Type}(I:α→Ad→Prop)(σf:α→List Ce)(μ:α→Nat)(x0:α)(h0:I x0 w)(hs:Hs (σf x0) σ)
 (round:∀ x w,I x w→EW P B n c (fun a' w'=>∃ y,Cx n (σf y) a'∧I y w'∧μ y < μ x) X T (σf x) w):EW P B n (.loop c) N X T σ w:=.mk fun a ha=>by
 intro b k cs
 have ac:∀ m x a w,μ x=m→Cx n (σf x) a→I x w→
   ∃ e a' w',Ls N X T B e a' w'∧Arrives P (lone (b.at a (.code c :: .inLoop c::k)) cs w) b k cs e a' w':=by
  intro m
  induction m using Nat.strongRecOn with
  | _ m ih =>
   intro x a w hm hk hI
   obtain ⟨e,a₁,w₁,hq,aa⟩:=round x w hI a hk b (.inLoop c::k) cs
   cases e with
   | normal =>
    obtain ⟨y,ag,ad,ae⟩:=hq
    obtain ⟨e₂,a₂,w₂,af,ab⟩:=ih (μ y) (hm▸ae) y a₁ w₁ rfl ag ad
    exact ⟨e₂,a₂,w₂,af,.of_steps (Steps.trans aa (.one step_inLoop)) ab⟩
   | exit id=>exact ⟨.exit id,a₁,w₁,hq,.pass (x:=.inLoop c) rfl (fun _ _=>.inl BI) aa⟩
   | goto l=>exact hq.elim
   | ret=>exact ⟨.ret,a₁,w₁,hq,.pass (x:=.inLoop c) rfl (fun _ _=>.inl BI) aa⟩
   | panic ch=>exact ⟨.panic ch,a₁,w₁,hq,.pass (x:=.inLoop c) rfl (fun _ _=>.inl BI) aa⟩
   | outgrown=>exact hq.elim
 obtain ⟨e,a',w',hq,aa⟩:=ac _ x0 a w rfl (ha.sub hs) h0;exact ⟨e,a',w',hq,.of_steps (.one step_loop) aa⟩
theorem GZ{c:Code}{α:Type}(I:α→Ad→Prop)(σc:List Ce)(σf:α→List Ce)(μ:α→Nat)(x0:α)(h0:I x0 w)(hs:Hs (σf x0 ++ σc) σ)
  (round:∀ x w,I x w→EW P B n c (fun a' w'=>∃ y,Cx n (σf y ++ σc) a'∧I y w'∧μ y < μ x) X T (σf x ++ σc) w):EW P B n (.loop c) N X T σ w :=
 QP I (fun x=>σf x ++ σc) μ x0 h0 hs round
theorem RF{fn:Func}{G':Ak→Ad→Prop}(hr:fn.results = #[])(h:G' (.tuple #[]) w):∀ a,Cx n σ a→bodyPost P fn (fun e w'=>∃ v,e = .returned v∧G' v w') .ret a w:=fun a ha =>
 bodyPost_ret (results_none hr _ _ _) ha.2.1 ⟨_,rfl,h⟩
theorem Hl{fn:Func}{G':Ak→Ad→Prop}(hr:fn.results = #[])(h:G' (.tuple #[]) w):∀ a,Cx n σ a→bodyPost P fn (fun e w'=>∃ v,e = .returned v∧G' v w') .normal a w:=fun a ha =>
 bodyPost_end (results_none hr _ _ _) ha.2.1 ⟨_,rfl,h⟩
theorem FJ{fn:Func}{G':Ak→Ad→Prop}{t:Nat}{v:Ak}(hr:fn.results = #[.tmp t])(hl:Ey σ t=some (True,v))(h:G' v w):∀ a,Cx n σ a→bodyPost P fn (fun e w'=>∃ v,e = .returned v∧G' v w') .ret a w:=fun a ha =>
 bodyPost_ret (results_tmp hr _ _ _) ha.2.1 ⟨_,rfl,by have:=ha.j hl BN;simp [this];exact h⟩
def ZY(us:List Ak):Ak:=if h:us.toArray.size=1 then us.toArray[0] else .tuple us.toArray
theorem PU{fn:Func}{G':Ak→Ad→Prop}{ts:List Nat}{vs:List Ak}(hr:fn.results=(ts.map ResultVar.tmp).toArray)(h2:Ap ts.length 1=false)(hl:ts.map (Ey σ)=vs.map (fun v=>some (True,v)))(h:G' (.tuple vs.toArray) w) :
 ∀ a,Cx n σ a→bodyPost P fn (fun e w'=>∃ v,e = .returned v∧G' v w') .ret a w:=fun a ha=>by
 refine bodyPost_ret (v:=.tuple vs.toArray) ?_ ha.2.1 ⟨_,rfl,h⟩
 have ad:∀ (ts:List Nat) (vs:List Ak),ts.map (Ey σ)=vs.map (fun v=>some (True,v))→ts.map (fun t=>a.tmps.getD t undef)=vs:=by
  intro ts
  induction ts with
  | nil=>intro vs h;cases vs with
   | nil=>rfl
   | cons=>simp at h
  | cons t ts ih =>
   intro vs h
   cases vs with
   | nil=>simp at h
   | cons v vs =>
    simp only [Gx,List.cons.injEq] at h;have:=ha.j h.1 BN;rw [Gx,ih vs h.2];simp [this]
 have ac:∀ (ts:List Nat),(ts.mapM (fun t=>(pure (a.tmps.getD t undef):Sem Ak))).run P w = .ok (ts.map fun t=>a.tmps.getD t undef) w:=by
  intro ts
  induction ts with
  | nil=>rfl
  | cons t ts ih =>
   rw [HA];simp only [Sem.run_bind,Sem.run_pure,Ez] at ih ⊢;rw [ih];rfl
 have ab:(results fn a.tmps).run P w = .ok (ZY (ts.map fun t=>a.tmps.getD t undef)) w:=by
  unfold results;rw [hr,HN];simp only [Sem.run_bind,Sem.run_map,List.mapM_map];have:=ac ts;simp only [Function.comp_def];rw [this];rfl
 rw [ab,ad ts vs hl];have aa:vs.length=ts.length:=by have:=congrArg List.length hl;simpa using this.symm
 unfold ZY;rw [dif_neg (by simp only [List.size_toArray,aa];intro he;rw [he] at h2;simp at h2)]
def JY:Nat→List Ak→List Ce
 | _,[]=>[]
 | k,v::vs=>(k,True,v)::JY (k+1) vs
theorem PP:∀ (vs:List Ak) (k t:Nat) (c:Prop) (v:Ak),Ey (JY k vs) t=some (c,v)→c=True∧k≤t∧vs[t-k]? = some v
 | [],_,_,_,_,h=>by simp [JY,Ey] at h
 | u::vs,k,t,c,v,h=>by
  unfold JY Ey at h
  cases hq:Ap k t with
  | true =>
   rw [hq] at h;obtain rfl:=BM hq;simp only [A8] at h;injection h with h;injection h with e1 e2;subst e2;exact ⟨e1.symm,DV _,by simp⟩
  | false =>
   rw [hq] at h;obtain ⟨h1,h2,h3⟩:=PP vs (k+1) t c v h;refine ⟨h1,O,?_⟩;rw [show t-k=(t-(k+1))+1 by omega];simpa using h3
theorem JW{f:FuncId}{fn:Func}{c:Code}{args:List Ak}{G':Ak→Ad→Prop}{m:Nat}(hf:P.funcs[f]? = some fn)(hb:fn.body=some c)(hm:args.length+(fn.ntmps-args.length)=m)
 (σ0:List Ce) (hs:Hs σ0 (JY 0 args))
 (hh:St P m c (fun a w=>bodyPost P fn (fun e w'=>∃ v,e = .returned v∧G' v w') .normal a w) [] (fun a w=>bodyPost P fn (fun e w'=>∃ v,e = .returned v∧G' v w') .ret a w)
 σ0 w):Bx P f args.toArray w G':=by
 unfold Bx;refine calls_of_wp hf hb (Code.wp_mono (fun e a w q=>?_) (hh _ (Cx.sub (σ:=JY 0 args) ?_ hs)))
 cases e with
 | normal=>exact q
 | ret=>exact q
 | panic ch=>exact q.2.elim
 | _=>exact q.elim
 refine ⟨by simp [← hm],rfl,fun t c' v hl=>?_⟩;obtain ⟨rfl,_,h3⟩:=PP args 0 t c' v hl;refine ⟨fun _=>?_,fun hn=>absurd BN hn⟩;rw [Nat.sub_zero] at h3;have aa:t<args.length:=(Lz.1 h3).1;simp [Array.getElem?_append,aa,h3];simpa [aa] using h3
end
section
variable {w w':Ad} {base:Nat} {e:Aw} {z:Nat} {v:Ak} {m:Nat} {xs:List Ak}
theorem Im(h:w.ownsRow base e z v m xs):∃ a c,v = .slice a m c∧m≤c:=by
 rcases h.2 with ⟨h1,h2⟩|⟨g,aa,ab,h1,_,_,h4,_⟩;subst h2;exact ⟨none,0,h1,DV _⟩;exact ⟨_,aa,h1,h4⟩
theorem iD(h:w.ownsRow base e z v m xs){b o c:Nat}{k:Nat}(hv:v = .slice (some ⟨b,o,none⟩) k c):Cv w b o xs∧o=0∧base≤b:=by
 rcases h.2 with ⟨h1,h2⟩|⟨g,aa,ab,h1,h2,h3,h4,h5,h6,h7⟩;rw [h1] at hv;injection hv with hv;cases hv;rw [h1] at hv;injection hv with hv _ _;injection hv with hv;injection hv with e1 e2 _;subst e1;subst e2;refine ⟨fun j u hj=>?_,rfl,h2⟩;have:=h.cells (g:=g) (by rw [h1];rfl) j u hj;rwa [Addr.add_lit] at this
theorem Ly(h:w.ownsRow base e z v m xs)(hm:0<m):∃ b c,v = .slice (some ⟨b,0,none⟩) m c∧m≤c∧Cv w b 0 xs∧base≤b:=by
 rcases h.2 with ⟨_,h2⟩|⟨g,aa,ab,h1,h2,h3,h4,h5,h6,h7⟩;omega;obtain ⟨q1,_,q3⟩:=iD h h1;exact ⟨g,aa,h1,h4,q1,q3⟩
theorem Df{row:Option Nat}(h:w.ownsRow base e z v m xs)(hg:w.grownBy w' row)(aa:v.ownBlock=none∨v.ownBlock≠row):w'.ownsRow base e z v m xs:=h.kept hg aa
theorem D7(h:w.ownsRow base e z v m xs)(hg:G w w'):w'.ownsRow base e z v m xs:=h.kept (hg.I none) (by cases hv:v.ownBlock <;> simp)
theorem X5(h:w.ownsRow base e z v m xs):w.drew.ownsRow base e z v m xs:=h
theorem JX(w:Ad)(base:Nat)(e:Aw)(z:Nat):w.ownsRow base e z (.slice none 0 0) 0 []:=World.ownsRow_nil w base e z
theorem Lt(h:G w w')(hb:base≤w.heap.size):Below base w w':=Below.mono h hb
theorem MZ{a:Ad}{row:Option Nat}(h:Below base a w)(hg:w.grownBy w' row)(hb:base≤w.heap.size)(hr:∀ k,row=some k→base≤k):Below base a w':=h.grown hg hb hr
theorem L7{a:Ad}{row:Option Nat}(h:G a w)(hg:w.grownBy w' row)(hr:∀ k,row=some k→a.heap.size≤k):G a w':=Below.grown h hg h.size hr
theorem lJ(h:w.ownsRow base e z v m xs){b:Nat}(hb:w.heap.size≤b):v.ownBlock≠some b:=fun hv=>by
 have:=(h.lt b hv).2;omega
end
section
variable {P:BH} {n:Nat} {σ:List Ce} {c:Prop} {wb:Ad} {ty:Aw} {v:Ak}
def Rg(P:BH)(t:Aw):Option Nat:=match P.underlying t with
 | some (.int _)=>some 0
 | some .string=>some 1
 | some .bool=>some 2
 | _=>none
def Tq(P:BH):Nat→List Field→Option (List Nat)
 | _,[]=>some []
 | k,f::fs=>if Ap f.offset k&&f.name != "_" then match Rg P f.type,Tq P (k+1) fs with
   | some a,some l=>some (a::l)
   | _,_=>none
  else none
def Qt(P:BH)(t:Aw):Option (List Nat):=match P.underlying t with
 | some (.struct fs)=>if P.stoodInHeld t=false∧P.eqGuardType P.depth t=false then Tq P 0 fs.toList else none
 | _=>none
def HD:List Nat→List Ak→List Ak→Option Bool
 | [],[],[]=>some true
 | 0::ks,.int k a::l,.int k' b::l'=>if k=k' then match HD ks l l' with|some r=>some (Ae (a=b)&&r)|none=>none else none
 | 1::ks,.string a::l,.string b::l'=>match HD ks l l' with|some r=>some (Ae (a.data.toList=b.data.toList)&&r)|none=>none
 | 2::ks,.bool a::l,.bool b::l'=>match HD ks l l' with|some r=>some (a == b&&r)|none=>none
 | _,_,_=>none
theorem VP{t:Aw}(ht:G4 P t=true){cs:Array Ak}{o:Nat}{v:Ak}(hv:cs[o]? = some v)(w:Ad):(part t cs o).run P w = .ok v w:=by
 have:(isAgg t).run P w = .ok false w:=by
  unfold G4 at ht;split at ht <;> try (cases ht;done)
  rename_i d aa ab hd;simp only [isAgg,Sem.run_bind,run_underlying hd,Ez];cases d <;> simp_all
 simp [part,this,hv]
theorem lO{t:Aw}{k:Nat}(h:Rg P t=some k):G4 P t=true:=by
 unfold Rg at h;unfold G4;split at h <;> simp_all
theorem jP{u u':Ak}{b:Bool}(he:HD [0] [u] [u']=some b):∃ k a a',u = .int k a∧u' = .int k a'∧b=Ae (a=a'):=by
 unfold HD at he;split at he;rename_i h1 _ _;cases h1;rename_i h1 h2 h3;injection h2 with h2 ab;injection h3 with h3 aa;injection h1 with h0 ac;subst ab aa h2 h3 ac;split at he;rename_i hk;subst hk;simp [HD] at he;exact ⟨_,_,_,rfl,rfl,he.symm⟩;cases he;rename_i h1 _ _;cases h1;rename_i h1 _ _;cases h1;cases he
theorem Aam{u u':Ak}{b:Bool}(he:HD [1] [u] [u']=some b):∃ a a',u = .string a∧u' = .string a'∧b=Ae (a.data.toList=a'.data.toList):=by
 unfold HD at he;split at he;rename_i h1 _ _;cases h1;rename_i h1 _ _;cases h1;rename_i h1 h2 h3;injection h2 with h2 ab;injection h3 with h3 aa;injection h1 with h0 ac;subst ab aa h2 h3 ac;simp only [HD,Bool.and_true,Option.some.injEq] at he;exact ⟨_,_,rfl,rfl,he.symm⟩;rename_i h1 _ _;cases h1;cases he
theorem gD{u u':Ak}{b:Bool}(he:HD [2] [u] [u']=some b):∃ a a',u = .bool a∧u' = .bool a'∧b=(a == a'):=by
 unfold HD at he;split at he;rename_i h1 _ _;cases h1;rename_i h1 _ _;cases h1;rename_i h1 _ _;cases h1;rename_i h1 h2 h3;injection h2 with h2 ab;injection h3 with h3 aa;injection h1 with h0 ac;subst ab aa h2 h3 ac;simp only [HD,Bool.and_true,Option.some.injEq] at he;exact ⟨_,_,rfl,rfl,he.symm⟩;cases he
theorem gS{t:Aw}{k d:Nat}(h:Rg P t=some k){u u':Ak}{b:Bool}(he:HD [k] [u] [u']=some b)(w:Ad):(Op.equalIn (d+1) t u u').run P w = .ok b w:=by
 unfold Rg at h;split at h <;> try (cases h;done)
 ·rename_i k0 hu
  injection h with h;subst h;obtain ⟨k,a,a',rfl,rfl,rfl⟩:=jP he;rw [run_equalIn_int w d t _ k0 _ _ hu];congr 1
 ·rename_i hu
  injection h with h;subst h;obtain ⟨a,a',rfl,rfl,rfl⟩:=Aam he;rw [run_equalIn_string w d t _ _ hu];congr 1;rw [ByteArray.toList_eq,ByteArray.toList_eq];rw [I4];simp
 ·rename_i hu
  injection h with h;subst h;obtain ⟨a,a',rfl,rfl,rfl⟩:=gD he;rw [run_equalIn_bool' w d t _ _ hu]
theorem rG{k:Nat}{ks:List Nat}{l l':List Ak}{b:Bool}(h:HD (k::ks) l l'=some b):∃ u u' r r' b1 b2,l=u::r∧l'=u'::r'∧HD [k] [u] [u']=some b1∧HD ks r r'=some b2∧b=(b1&&b2):=by
 unfold HD at h;split at h;rename_i h1;cases h1;rename_i h1;injection h1 with h1 aa;subst h1 aa;split at h;rename_i hk;subst hk;split at h;rename_i r hr;injection h with h;exact ⟨_,_,_,_,_,r,rfl,rfl,by simp [HD],hr,h.symm⟩;cases h;cases h;rename_i h1;injection h1 with h1 aa;subst h1 aa;split at h;rename_i r hr;injection h with h;exact ⟨_,_,_,_,_,r,rfl,rfl,by simp [HD],hr,h.symm⟩;cases h;rename_i h1;injection h1 with h1 aa;subst h1 aa;split at h;rename_i r hr;injection h with h;exact ⟨_,_,_,_,_,r,rfl,rfl,by simp [HD],hr,h.symm⟩;cases h;cases h
theorem Wd(d:Nat):∀ (fs:List Field) (ks:List Nat) (k:Nat) (l l':List Ak) (pre pre':List Ak) (b:Bool),Tq P k fs=some ks→pre.length=k→pre'.length=k→HD ks l l'=some b→
  ∀ w,(Op.eqFields (d+1) (pre++l).toArray (pre'++l').toArray fs).run P w = .ok b w
 | [],ks,k,l,l',pre,pre',b,hf,h1,h2,he,w=>by
  injection hf with hf;subst hf;unfold HD at he;split at he <;> simp_all [Op.eqFields]
 | f::fs,ks,k,l,l',pre,pre',b,hf,h1,h2,he,w=>by
  unfold Tq at hf;split at hf;rename_i hc;simp only [Bh,bne_iff_ne,ne_eq] at hc;have hc:=And.intro (BM hc.1) hc.2;split at hf;rename_i a ls ha aa;injection hf with hf;subst hf;obtain ⟨u,u',r,r',b1,b2,rfl,rfl,e1,e2,rfl⟩:=rG he;have ho:=lO ha;have g1:(pre++u::r).toArray[f.offset]? = some u:=by simp [hc.1,← h1]
  have g2:(pre'++u'::r').toArray[f.offset]? = some u':=by simp [hc.1,← h2]
  have ih:=Wd d fs ls (k+1) r r' (pre++[u]) (pre'++[u']) b2 aa (by simp [h1]) (by simp [h2]) e2 w;rw [Gz,Gz,RN,RN] at ih;simp only [Op.eqFields,CP hc.2,Sem.run_bind,VP ho g1,VP ho g2,Ez,gS ha e1];cases b1;simp;simpa using ih;cases hf;cases hf
theorem I1{t u:Aw}{x y:A7}{ks:List Nat}{l l':List Ak}{b:Bool}(ht:Qt P t=some ks)(h:Bz n σ c x (.agg l.toArray))(h':Bz n σ c y (.agg l'.toArray))(he:HD ks l l'=some b):DB P n σ c wb (.binOp .eql t x y u) ty (.bool b):=.mk fun d pos after gd a ha hc w1 _=>by
 unfold Qt at ht;split at ht;rename_i fs aa;split at ht;rename_i hk;have ab:P.fieldsOf t=fs:=by simp [Program.fieldsOf,aa]
 have k2:=run_equalIn_struct w1 9999 t l.toArray l'.toArray (by rw [ab];exact aa) hk.1;have k3:=Wd 9998 fs.toList ks 0 l l' [] [] b ht rfl rfl he w1;simp only [LD] at k3;rw [ab,k3] at k2;simp [execOp,h a ha hc,h' a ha hc,run_eqGuard_agg w1 .eql t x y l.toArray l'.toArray hk.2,run_eql_struct,k2];cases ht;cases ht
theorem WH{t u:Aw}{x y:A7}{ks:List Nat}{l l':List Ak}{b:Bool}(ht:Qt P t=some ks)(h:Bz n σ c x (.agg l.toArray))(h':Bz n σ c y (.agg l'.toArray))(he:HD ks l l'=some b):DB P n σ c wb (.binOp .neq t x y u) ty (.bool (!b)):=.mk fun d pos after gd a ha hc w1 _=>by
 unfold Qt at ht;split at ht;rename_i fs aa;split at ht;rename_i hk;have ab:P.fieldsOf t=fs:=by simp [Program.fieldsOf,aa]
 have k2:=run_equalIn_struct w1 9999 t l.toArray l'.toArray (by rw [ab];exact aa) hk.1;have k3:=Wd 9998 fs.toList ks 0 l l' [] [] b ht rfl rfl he w1;simp only [LD] at k3;rw [ab,k3] at k2;simp [execOp,h a ha hc,h' a ha hc,run_eqGuard_agg w1 .neq t x y l.toArray l'.toArray hk.2,run_neq_struct,k2];cases ht;cases ht
def Tb(P:BH)(t:Aw):Option Nat:=match P.underlying t with
 | some (.array m e)=>if G4 P e=true∧Ir P e=some 1 then some m else none
 | _=>none
theorem XE{t m:Nat}{x y:A7}{cs:Array Ak}{k:IntKind}{i:Int}{v:Ak}(ht:Tb P t=some m)(h:Bz n σ c x (.agg cs))(h':Bz n σ c y (.int k i))(hi:c→0≤i∧i<m)(hv:c→cs[i.toNat]? = some v) :
 DB P n σ c wb (.index t x y) ty v:=.mk fun d pos after gd a ha hc w1 _=>by
 obtain ⟨h0,h1⟩:=hi hc;unfold Tb at ht;split at ht;rename_i m' e hu;split at ht;rename_i hk;injection ht with ht;subst ht;obtain ⟨ho,hz⟩:=hk;unfold Ir at hz
 cases hi2:P.info? e with
 | none=>rw [hi2] at hz;cases hz
 | some inf =>
  rw [hi2] at hz;injection hz with hz
  have hs:(sizeOf e).run P w1 = .ok 1 w1:=by
   have:=hz;simp [sizeOf,typeInfo,run_program,hi2,hz]
  simp [execOp,h a ha hc,h' a ha hc,Instr.index,asIntOf,run_underlying hu,h0,h1,hs,VP ho (hv hc)]
 cases ht;cases ht
def Pb:Ak→Bool
 | .nilIface=>true
 | _=>false
theorem V2{t u:Aw}{x:A7}{e:Ak}(ht:P.isIface t=true)(h:Bz n σ c x e)(he:e = .nilIface∨∃ a b,e = .iface a b):DB P n σ c wb (.binOp .neq t x (.const .nilIface) u) ty (.bool (!Pb e)):=.mk fun d pos after gd a ha hc w1 _=>by
 rcases he with rfl|⟨t1,u1,rfl⟩;simp [execOp,h a ha hc,Q9,eqGuard,binOp,Op.equal,Op.maxDepth,run_equalIn_nil_nil_at w1 9999 t ht,Pb];simp [execOp,h a ha hc,Q9,eqGuard,binOp,Op.equal,Op.maxDepth,run_equalIn_iface_nil w1 9999 t ht,Pb]
theorem pX{t e:Aw}(he:P.underlying t=some (.slice e))(o:Option Addr)(m q:Nat)(d:Nat)(w:Ad):(Op.equalIn (d+1) t (.slice o m q) (.slice none 0 0)).run P w = .ok o.isNone w:=by
 cases o <;> simp [Op.equalIn,run_underlying he]
theorem Wr{t e z aa:Nat}{u:Aw}{x:A7}{o:Option Addr}{m q:Nat}(ht:FQ P t=some (e,z,aa))(h:Bz n σ c x (.slice o m q)):DB P n σ c wb (.binOp .eql t x (.const (.slice none 0 0)) u) ty (.bool o.isNone):=.mk fun d pos after gd a ha hc w1 _=>by
 obtain ⟨hu,_⟩:=JV ht;simp [execOp,h a ha hc,Q9,eqGuard_at_slice,binOp,Op.equal,Op.maxDepth,pX hu o m q 9999 w1]
theorem Pj{e:Aw}{i:TypeInfo}(hi:P.info? e=some i)(w:Ad):(sizeOf e).run P w = .ok i.size w:=by simp [sizeOf,typeInfo,run_program,hi]
theorem OS{t e z aa:Nat}{x y:A7}{o:Option Addr}{m q:Nat}{k:IntKind}{j:Int}(ht:FQ P t=some (e,z,aa))(h:Bz n σ c x (.slice o m q))(h':Bz n σ c y (.int k j))(hi:c→0≤j∧j≤q) :
 DB P n σ c wb (.slice t x none (some y) none) ty (.slice o j.toNat q):=.mk fun d pos after gd a ha hc w1 _=>by
 obtain ⟨hu,i,ab,hz,_⟩:=JV ht;have e1:=hi hc;have e2:o.map (fun b=>Addr.add b 0)=o:=by cases o <;> simp [Addr.add]
 simp only [execOp,h a ha hc,h' a ha hc,Instr.sliceAt,FP,Gg,Sem.run_bind,run_underlying hu,Ez];simp [Instr.slice,run_underlying hu,Instr.sliceBounds,Instr.sliceBound,asIntOf,e1,Pj ab,e2]
theorem PJ{t e z ac:Nat}{x y:A7}{b aa:Nat}{m q:Nat}{k:IntKind}{i:Int}(ht:FQ P t=some (e,z,ac))(h:Bz n σ c x (.slice (some ⟨b,aa,none⟩) m q))(h':Bz n σ c y (.int k i))(hi:c→0≤i∧i≤m) :
 DB P n σ c wb (.slice t x (some y) none none) ty (.slice (some ⟨b,if q=i.toNat then aa else aa+i.toNat*z,none⟩) (m-i.toNat) (q-i.toNat)):=.mk fun d pos after gd a ha hc w1 _=>by
 obtain ⟨hu,ad,ab,hz,_⟩:=JV ht;have e1:=hi hc;simp only [execOp,h a ha hc,h' a ha hc,Instr.sliceAt,FP,Gg,Sem.run_bind,run_underlying hu,Ez];simp [Instr.slice,run_underlying hu,Instr.sliceBounds,Instr.sliceBound,asIntOf,e1,Pj ab,hz];split <;> simp [Addr.add]
theorem Pl{f:FuncId}{fs cs:Array A7}{vs us:List Ak}(h:Kj n σ c fs.toList vs)(h':Kj n σ c cs.toList us):DB P n σ c wb (.makeFunc (.func f) fs cs) ty (.func (.func f) vs.toArray us.toArray):=.mk fun d pos after gd a ha hc w1 _=>by
 have e1:=h a ha hc;have e2:=h' a ha hc;have e3:fs.map a.eval=vs.toArray:=by rw [← e1,← Array.toList_map,Ke]
 have e4:cs.map a.eval=us.toArray:=by rw [← e2,← Array.toList_map,Ke]
 simp [execOp,Instr.makeFunc,e3,e4]
def Qd(P:BH)(t:Aw):Bool:=match P.underlying t with|some (.interface _)=>false|some _=>true|none=>false
theorem qK{t:Aw}{x:A7}{u:Ak}(ht:Qd P t=true)(h:Bz n σ c x u):DB P n σ c wb (.makeInterface t x) ty (.iface t u):=.mk fun d pos after gd a ha hc w1 _=>by
 unfold Qd at ht;split at ht <;> try (cases ht;done)
 rename_i d' aa hd;simp only [execOp,h a ha hc,Instr.makeInterface,Sem.run_bind,run_underlying hd,Ez];cases d' <;> simp_all
theorem jS{t u:Aw}{x y:A7}{k:IntKind}{i j r:Int}(h:Bz n σ c x (.int k i))(h':Bz n σ c y (.int k j))(hr:c→k.wrap (i-j)=r):DB P n σ c wb (.binOp .sub t x y u) ty (.int k r):=.mk fun d pos after gd a ha hc w1 hg=>by
 have:=kX (P:=P) (t:=t) (u:=u) (wb:=wb) (ty:=ty) h h' d pos after gd a ha hc w1 hg;rw [hr hc] at this;exact this
def OM(tmps:Array Ak):ResultVar→Sem Ak
 | .tmp t=>pure (tmps.getD t undef)
 | .cell a t=>do loadVar t (← asAddr (tmps.getD a undef))
def LY(P:BH)(n:Nat)(σ:List Ce)(w:Ad)(rs:List ResultVar)(vs:List Ak):Prop:=∀ a,Cx n σ a→(rs.mapM (OM a.tmps)).run P w = .ok vs w
theorem HP{w:Ad}:LY P n σ w [] []:=fun _ _=>rfl
theorem WC{w:Ad}{r:ResultVar}{rs:List ResultVar}{vs:List Ak}(h:∀ a,Cx n σ a→(OM a.tmps r).run P w = .ok v w)(k:LY P n σ w rs vs):LY P n σ w (r::rs) (v::vs):=fun a ha=>by
 have h1:=h a ha;have h2:=k a ha;rw [HA];simp only [Sem.run_bind,Sem.run_pure,h1,h2,Ez]
theorem J7{w:Ad}{t:Nat}{rs:List ResultVar}{vs:List Ak}(h:Ey σ t=some (True,v))(k:LY P n σ w rs vs):LY P n σ w (.tmp t::rs) (v::vs):=WC (fun a ha=>by
 have:=ha.j h BN;simp [OM,this]) k
theorem HQ{w:Ad}{t b o z:Nat}{T:Aw}{l:List Ak}{rs:List ResultVar}{vs:List Ak}(h:Ey σ t=some (True,.pointer (some ⟨b,o,none⟩)))(ht:KW P T=some z)(hl:l.length=z)(hc:Cv w b o l)(k:LY P n σ w rs vs):LY P n σ w (.cell t T::rs) (.agg l.toArray::vs):=WC (fun a ha=>by
 have:=ha.j h BN;have h2:=cH ht hl hc;simp [OM,this,asAddr,h2]) k
theorem OC{w:Ad}{t b o:Nat}{T:Aw}{rs:List ResultVar}{vs:List Ak}(h:Ey σ t=some (True,.pointer (some ⟨b,o,none⟩)))(ht:G4 P T=true)(hc:w.cell? ⟨b,o,none⟩=some v)(k:LY P n σ w rs vs):LY P n σ w (.cell t T::rs) (v::vs):=WC (fun a ha=>by
 have:=ha.j h BN;have h2:=aX ht hc;simp [OM,this,asAddr,h2]) k
theorem KV{fn:Func}{G':Ak→Ad→Prop}{w:Ad}{rs:List ResultVar}{vs:List Ak}(hr:fn.results=rs.toArray)(h2:Ap rs.length 1=false)(hl:LY P n σ w rs vs)(aa:vs.length=rs.length)(h:G' (.tuple vs.toArray) w) :
 ∀ a,Cx n σ a→bodyPost P fn (fun e w'=>∃ v,e = .returned v∧G' v w') .ret a w:=fun a ha=>by
 refine bodyPost_ret (v:=.tuple vs.toArray) ?_ ha.2.1 ⟨_,rfl,h⟩;have h1:=hl a ha
 have ab:results fn a.tmps=(do let vs ← fn.results.mapM (OM a.tmps);pure (if h:vs.size=1 then vs[0] else .tuple vs)):=by
  unfold results;congr 1
 rw [ab,hr,HN];simp only [Sem.run_bind,Sem.run_map,h1,Ez];have hn:vs.length≠1:=by rw [aa];intro he;rw [he] at h2;cases h2
 simp [hn]
theorem Mf{fn:Func}{G':Ak→Ad→Prop}{w:Ad}{r:ResultVar}(hr:fn.results = #[r])(hl:LY P n σ w [r] [v])(h:G' v w) :
 ∀ a,Cx n σ a→bodyPost P fn (fun e w'=>∃ v,e = .returned v∧G' v w') .ret a w:=fun a ha=>by
 refine bodyPost_ret (v:=v) ?_ ha.2.1 ⟨_,rfl,h⟩;have h1:=hl a ha
 have aa:results fn a.tmps=(do let vs ← fn.results.mapM (OM a.tmps);pure (if h:vs.size=1 then vs[0] else .tuple vs)):=by
  unfold results;congr 1
 rw [aa,hr,HN];simp only [Sem.run_bind,Sem.run_map,h1,Ez];simp
end
structure H0 where
  r:Ad→Ad→Prop
  refl:∀ w,r w w
  trans:∀ {a b c:Ad},r a b→r b c→r a c
@[reducible] def Ef(row:Option Nat):H0:=⟨fun w w'=>w.grownBy w' row,fun w=>(G.refl w).I row,fun h k=>PV h k⟩
abbrev IF(row:H0)(w w':Ad):Prop:=row.r w w'
theorem IF.refl(row:H0)(w:Ad):IF row w w:=row.refl w
def MB(P:BH)(Z:List Bd→Act→Ad→Prop)(row:H0)(gr:Bool)(o:Oper)(a:Act)(w:Ad)(next:Act→Ad→Prop):Prop :=
 (∃ v w',(execOp a.eval o).run P w = .ok (.value v) w'∧(gr=true→IF row w w')∧next (a.put o.dst v) w')∨
 (∃ w',(execOp a.eval o).run P w = .ok .skip w'∧(gr=true→IF row w w')∧next (a.put o.dst undef) w')∨
 (∃ f args,(execOp a.eval o).run P w = .ok (.enter f args) w∧Calls P f args w fun e w'=>(∃ v,e = .returned v∧(gr=true→IF row w w')∧next (a.put o.dst v) w')∨(∃ ch,e = .panicked ch∧Z ch a w'))∨
 (∃ l f tmps asg body,(execOp a.eval o).run P w = .ok (.round l f tmps asg body) w∧RoundIn Fence.wide 0 P l f tmps asg body w fun e w'=>∃ v,e = .returned v∧(gr=true→IF row w w')∧next (a.put o.dst v) w')
theorem MB.wpIn{P:BH}{Z:List Bd→Act→Ad→Prop}{row:H0}{gr:Bool}{o:Oper}{a:Act}{w:Ad}{next:Act→Ad→Prop}{Q:Exit→Act→Ad→Prop}{ρ:Option Nat}
 (h:MB P Z row gr o a w next) (hZ:∀ ch w',Z ch a w'→Q (.panic ch) a w'):o.wpIn (Kb ρ) 0 P a w next Q:=by
 refine Lr.wpIn (Z:=Z) (gr:=false) ?_ hZ;rcases h with ⟨v,w',hr,_,hn⟩|⟨w',hr,_,hn⟩|⟨f,aa,hr,hc⟩|⟨l,f,tmps,ab,body,hr,hc⟩;exact .inl ⟨v,w',hr,(fun h=>by cases h),hn⟩;exact .inr (.inl ⟨w',hr,(fun h=>by cases h),hn⟩);refine .inr (.inr (.inl ⟨f,aa,hr,Calls.mono hc fun e w' h=>?_⟩));rcases h with ⟨v,e1,_,h1⟩|⟨ch,e1,h1⟩;exact .inl ⟨v,e1,(fun h=>by cases h),h1⟩;exact .inr ⟨ch,e1,h1⟩;refine .inr (.inr (.inr ⟨l,f,tmps,ab,body,hr,RoundIn.mono hc fun e w' h=>?_⟩));obtain ⟨v,e1,_,h1⟩:=h;exact ⟨v,e1,(fun h=>by cases h),h1⟩
theorem MB.turn{P:BH}{Z Z':List Bd→Act→Ad→Prop}{row:H0}{gr:Bool}{o:Oper}{a b:Act}{w:Ad}{next aa:Act→Ad→Prop}(he:execOp b.eval o=execOp a.eval o)
 (hz:∀ ch w',Z ch a w'→Z' ch b w')
 (hn:∀ v w',(gr=true→IF row w w')→next (a.put o.dst v) w'→aa (b.put o.dst v) w') (h:MB P Z row gr o a w next):MB P Z' row gr o b w aa:=by
 rcases h with ⟨v,w',hr,hg,h1⟩|⟨w',hr,hg,h1⟩|⟨f,ab,hr,hc⟩|⟨l,f,tmps,ac,body,hr,hc⟩;exact .inl ⟨v,w',by rw [he];exact hr,hg,hn _ _ hg h1⟩;exact .inr (.inl ⟨w',by rw [he];exact hr,hg,hn _ _ hg h1⟩);refine .inr (.inr (.inl ⟨f,ab,by rw [he];exact hr,Calls.mono hc fun e w' h=>?_⟩));rcases h with ⟨v,e1,hg,h1⟩|⟨ch,e1,h1⟩;exact .inl ⟨v,e1,hg,hn _ _ hg h1⟩;exact .inr ⟨ch,e1,hz _ _ h1⟩;refine .inr (.inr (.inr ⟨l,f,tmps,ac,body,by rw [he];exact hr,RoundIn.mono hc fun e w' h=>?_⟩));obtain ⟨v,e1,hg,h1⟩:=h;exact ⟨v,e1,hg,hn _ _ hg h1⟩
def Mw(wt:Nat→Nat→Bool)(L:List Nat)(j:Nat):Prop:=∀ i∈L,wt j i=false
section
variable (P:BH) (Z:List Bd→Act→Ad→Prop) (ops:Array Oper) (cl:Nat→Nat) (wt:Nat→Nat→Bool) (row:H0) (H':Act→Ad→Prop)
def Gu:Nat→List Nat→Act→Ad→Prop
 | 0,L,a,w=>L=[]∧H' a w
 | n+1,L,a,w =>
  (∃ r,r∈L∧Mw wt L r∧(cl r=0∨cl r=3)∧∃ o,ops[r]? = some o∧∃ v,(Dt o (yielded ops a.tmps)=true→∀ w1,cl r=3∨IF row w w1→(execOp a.eval o).run P w1 = .ok (.value v) w1)∧
   (Dt o (yielded ops a.tmps)=false→v=undef)∧Gu n (L.erase r) (a.put o.dst v) w)∨
  ((∀ r∈L,Mw wt L r→¬ (cl r=0∨cl r=3))∧∀ j∈L,Mw wt L j→∃ o,ops[j]? = some o∧
   if Dt o (yielded ops a.tmps)=true then MB P Z row (cl j == 1) o a w (fun a' w'=>Gu n (L.erase j) a' w') else Gu n (L.erase j) (a.put o.dst undef) w)
end
section
variable {P:BH} {Z:List Bd→Act→Ad→Prop} {ops:Array Oper} {cl:Nat→Nat} {wt:Nat→Nat→Bool} {row:H0} {H':Act→Ad→Prop}
structure NQ (ops:Array Oper) (cl:Nat→Nat) (wt:Nat→Nat→Bool):Prop where
  sel:∀ (j:Nat) (o:Oper) cs b,ops[j]? = some o→o.op≠.select cs b
  way:∀ (j:Nat) (o:Oper) (i:Nat),ops[j]? = some o→wt j i=true→∃ e,e∈o.after∧Ij .any e=true∧(e.on=i∨wt e.on i=true)
  lt:∀ (j:Nat) (o:Oper) (e:Edge),ops[j]? = some o→e∈o.after→Ij .any e=true→e.on<j
  pair:∀ (i j:Nat) (oi oj:Oper),i<j→ops[i]? = some oi→ops[j]? = some oj→wt j i=false→(¬ (cl i=0∨cl i=3)∧¬ (cl j=0∨cl j=3))∨(oi.apart ops oj=true∧(cl i=3∨cl j=3∨(cl i=0∧cl j≤1)∨(cl j=0∧cl i≤1)))
theorem NQ.bn(ok:NQ ops cl wt){r j:Nat}{or oj:Oper}(hr:ops[r]? = some or)(hj:ops[j]? = some oj)(ab:r≠j)(h1:wt r j=false)(h2:wt j r=false)(hc:cl r=0∨cl r=3) :
 ((∀ d,or.dst=some d→d∉oj.looksAt ops)∧(∀ d,or.dst=some d→oj.dst≠some d)∧(∀ d,oj.dst=some d→d∉or.looksAt ops))∧(cl r=3∨(cl r=0∧(cl j=3∨cl j≤1))):=by
 rcases Nat.lt_or_gt_of_ne ab with aa|aa;rcases ok.pair r j or oj aa hr hj h2 with h|⟨h,hh⟩;exact absurd hc h.1;refine ⟨Oper.apart_spec h,?_⟩;rcases hc with hc|hc;right;refine ⟨hc,?_⟩;omega;exact .inl hc;rcases ok.pair j r oj or aa hj hr h1 with h|⟨h,hh⟩;exact absurd hc h.2;obtain ⟨p1,p2,p3⟩:=Oper.apart_spec h;refine ⟨⟨p3,fun d hd he=>p2 d he hd,p1⟩,?_⟩;rcases hc with hc|hc;right;refine ⟨hc,?_⟩;omega;exact .inl hc
theorem Mw.erase{L:List Nat}{j r:Nat}(h:Mw wt L j):Mw wt (L.erase r) j:=fun i hi=>h i (F9 hi)
theorem tH{row:H0}{a b c:Ad}(h:IF row a b)(k:IF row b c):IF row a c:=row.trans h k
theorem uK(ok:NQ ops cl wt){j:Nat}{oj:Oper}(hj:ops[j]? = some oj)(ae:cl j=0∨cl j=3) :
 ∀ (n:Nat) (L:List Nat) (a:Act) (w:Ad),L.length=n+1→L.Nodup→j∈L→Mw wt L j→Gu P Z ops cl wt row H' (n+1) L a w→
 ∃ v,(Dt oj (yielded ops a.tmps)=true→∀ w1,cl j=3∨IF row w w1→(execOp a.eval oj).run P w1 = .ok (.value v) w1)∧
 (Dt oj (yielded ops a.tmps)=false→v=undef)∧Gu P Z ops cl wt row H' n (L.erase j) (a.put oj.dst v) w:=by
 intro n
 induction n with
 | zero =>
  intro L a w hn nd hm aa h;obtain ⟨x,rfl⟩:∃ x,L=[x]:=Rh.1 hn;obtain rfl:j=x:=FS.1 hm;rcases h with ⟨r,hr,ab,hc,o,ho,v,h1,h2,h3⟩|⟨ac,_⟩;obtain rfl:r=j:=FS.1 hr;obtain rfl:o=oj:=EM (ho.symm.trans hj);exact ⟨v,h1,h2,h3⟩;exact absurd ae (ac j hm aa)
 | succ n ih =>
  intro L a w hn nd hm aa h;rcases h with ⟨r,hr,ab,hc,o,ho,u,h1,h2,h3⟩|⟨ac,_⟩;by_cases hrj:r=j;subst hrj;obtain rfl:o=oj:=EM (ho.symm.trans hj);exact ⟨u,h1,h2,h3⟩;obtain ⟨⟨p1,p2,p3⟩,_⟩:=ok.bn ho hj hrj (ab j hm) (aa r hr) hc;have ah:∀ v,execOp (a.put o.dst v).eval oj=execOp a.eval oj:=fun v=>execOp_put (ops:=ops) oj (fun cs b=>ok.sel j oj cs b hj) a o.dst v p1;have af:∀ v,Dt oj (yielded ops (a.put o.dst v).tmps)=Dt oj (yielded ops a.tmps):=fun v=>wanted_put oj a o.dst v p1;have ag:∀ v,execOp (a.put oj.dst v).eval o=execOp a.eval o:=fun v=>execOp_put (ops:=ops) o (fun cs b=>ok.sel r o cs b ho) a oj.dst v p3;have ad:∀ v,Dt o (yielded ops (a.put oj.dst v).tmps)=Dt o (yielded ops a.tmps):=fun v=>wanted_put o a oj.dst v p3;have ai:j∈L.erase r:=nd.mem_erase_iff.2 ⟨fun h=>hrj h.symm,hm⟩;have aj:r∈L.erase j:=nd.mem_erase_iff.2 ⟨hrj,hr⟩;obtain ⟨v,k1,k2,k3⟩:=ih (L.erase r) _ w (by rw [GB hr];omega) (nd.erase r) ai aa.erase h3;rw [af] at k1 k2;rw [ah] at k1;refine ⟨v,k1,k2,.inl ⟨r,aj,ab.erase,hc,o,ho,u,?_,?_,?_⟩⟩;rw [ad,ag];exact h1;rw [ad];exact h2;rw [List.erase_comm,← Act.put_comm a u v p2];exact k3;exact absurd ae (ac j hm aa)
theorem tC(ai:∀ ch (a:Act) d v w,(∃ (i:Nat) (o:Oper),ops[i]? = some o∧o.dst=d)→Z ch (a.put d v) w→Z ch a w)(ok:NQ ops cl wt){j:Nat}{oj:Oper}(hj:ops[j]? = some oj)(ad:¬ (cl j=0∨cl j=3)) :
 ∀ (n:Nat) (L:List Nat) (a:Act) (w:Ad),L.length=n+1→L.Nodup→j∈L→Mw wt L j→Gu P Z ops cl wt row H' (n+1) L a w→
 if Dt oj (yielded ops a.tmps)=true then MB P Z row (cl j == 1) oj a w (fun a' w'=>Gu P Z ops cl wt row H' n (L.erase j) a' w')
 else Gu P Z ops cl wt row H' n (L.erase j) (a.put oj.dst undef) w:=by
 intro n
 induction n with
 | zero =>
  intro L a w hn nd hm ac h;obtain ⟨x,rfl⟩:∃ x,L=[x]:=Rh.1 hn;obtain rfl:j=x:=FS.1 hm;rcases h with ⟨r,hr,ae,hc,_⟩|⟨_,aa⟩;obtain rfl:r=j:=FS.1 hr;exact absurd hc ad;obtain ⟨o,ho,hb⟩:=aa j hm ac;obtain rfl:o=oj:=EM (ho.symm.trans hj);exact hb
 | succ n ih =>
  intro L a w hn nd hm ac h;rcases h with ⟨r,hr,ae,hc,o,ho,u,h1,h2,h3⟩|⟨_,aa⟩;have af:r≠j:=fun e=>ad (e▸hc);obtain ⟨⟨p1,p2,p3⟩,hq⟩:=ok.bn ho hj af (ae j hm) (ac r hr) hc;have ak:∀ v,execOp (a.put o.dst v).eval oj=execOp a.eval oj:=fun v=>execOp_put (ops:=ops) oj (fun cs b=>ok.sel j oj cs b hj) a o.dst v p1;have ah:∀ v,Dt oj (yielded ops (a.put o.dst v).tmps)=Dt oj (yielded ops a.tmps):=fun v=>wanted_put oj a o.dst v p1;have aj:∀ v,execOp (a.put oj.dst v).eval o=execOp a.eval o:=fun v=>execOp_put (ops:=ops) o (fun cs b=>ok.sel r o cs b ho) a oj.dst v p3;have ag:∀ v,Dt o (yielded ops (a.put oj.dst v).tmps)=Dt o (yielded ops a.tmps):=fun v=>wanted_put o a oj.dst v p3;have al:j∈L.erase r:=nd.mem_erase_iff.2 ⟨fun h=>af h.symm,hm⟩;have am:r∈L.erase j:=nd.mem_erase_iff.2 ⟨af,hr⟩;have k:=ih (L.erase r) _ w (by rw [GB hr];omega) (nd.erase r) al ac.erase h3;rw [ah] at k
  have back:∀ x w',(cl j=1→IF row w w')→Gu P Z ops cl wt row H' n ((L.erase r).erase j) ((a.put o.dst u).put oj.dst x) w'→Gu P Z ops cl wt row H' (n+1) (L.erase j) (a.put oj.dst x) w':=by
   intro x w' hg hk;refine .inl ⟨r,am,ae.erase,hc,o,ho,u,?_,?_,?_⟩;rw [ag,aj];intro hw w1 ab;refine h1 hw w1 ?_;rcases ab with ab|ab;exact .inl ab;rcases hq with hq|⟨_,hq⟩;exact .inl hq;refine .inr (tH (hg ?_) ab);have:¬ cl j=0:=fun e=>ad (.inl e);have:¬ cl j=3:=fun e=>ad (.inr e);omega;rw [ag];exact h2;rw [List.erase_comm,← Act.put_comm a u x p2];exact hk
  by_cases hwj:Dt oj (yielded ops a.tmps)=true;rw [CP hwj] at k ⊢;exact k.turn (ak u).symm (fun ch w' h=>ai _ _ _ _ _ ⟨_,_,ho,rfl⟩ h) fun x w' hg hk=>back x w' (fun h=>hg (by simp [h])) hk;rw [CJ hwj] at k ⊢;exact back _ _ (fun _=>IF.refl _ _) k;obtain ⟨o,ho,hb⟩:=aa j hm ac;obtain rfl:o=oj:=EM (ho.symm.trans hj);exact hb
theorem Left.bi(ok:NQ ops cl wt){L:List Nat}{listed:Array Bool}(hL:Left ops L listed) :
 ∀ (n j:Nat) (oj:Oper),j≤n→ops[j]? = some oj→(∀ e∈oj.after,Ij .any e=true→e.on∉L)→∀ i∈L,wt j i=false:=by
 intro n
 induction n with
 | zero =>
  intro j oj ad hj _ i _
  cases hw:wt j i with
  | false=>rfl
  | true =>
   obtain ⟨e,he,hb,_⟩:=ok.way j oj i hj hw;have:=ok.lt j oj e hj he hb;omega
 | succ n ih =>
  intro j oj ad hj ab i hi
  cases hw:wt j i with
  | false=>rfl
  | true =>
   obtain ⟨e,he,hb,hh⟩:=ok.way j oj i hj hw;have af:=ok.lt j oj e hj he hb;have aa:=ab e he hb;rcases hh with rfl|hh;exact absurd hi aa;have ae:e.on<ops.size:=by have:=(Ei.1 hj).1;omega
   have ac:ops[e.on]? = some ops[e.on]:=Fe ae;have:=ih e.on _ O ac (hL.closed e.on _ ac aa) i hi;rw [this] at hh;cases hh
theorem nL{ρ:Option Nat}(al:∀ ch (a:Act) d v w,(∃ (i:Nat) (o:Oper),ops[i]? = some o∧o.dst=d)→Z ch (a.put d v) w→Z ch a w)(ok:NQ ops cl wt){Q:Exit→Act→Ad→Prop}(hQ:∀ a w,H' a w→Q .normal a w)(hZ:∀ ch a w,Z ch a w→Q (.panic ch) a w) :
 ∀ (n:Nat) (L:List Nat) (listed:Array Bool) (a:Act) (w:Ad),L.length=n→Left ops L listed→Gu P Z ops cl wt row H' n L a w→wpAnyIn (Kb ρ) 0 P .any ops Q n listed a w:=by
 intro n
 induction n with
 | zero =>
  intro L listed a w hn hL h;obtain rfl:L=[]:=NI hn;refine ⟨?_,hQ _ _ h.2⟩;refine Ny.2 fun j hj=>?_;obtain ⟨h0,o,ho,_⟩:=mem_ready.1 hj;have:=(hL.w j).2 ⟨(Ei.1 ho).1,h0⟩;cases this
 | succ n ih =>
  intro L listed a w hn hL h;have nd:L.Nodup:=hL.sorted.imp (fun h=>Ic h)
  have ak:∀ j,j∈Region.ready .any ops listed→∃ oj,ops[j]? = some oj∧j∈L∧∀ e∈oj.after,Ij .any e=true→e.on∉L:=by
   intro j hj;obtain ⟨h0,oj,ho,aa⟩:=mem_ready.1 hj;have am:=(Ei.1 ho).1;refine ⟨oj,ho,(hL.w j).2 ⟨am,h0⟩,fun e he hb hm=>?_⟩;have h1:=aa e he hb;obtain ⟨h2,h3⟩:=(hL.w e.on).1 hm;have h4:e.on<listed.size:=by rw [hL.size];exact h2
   simp [h4] at h1 h3;rw [h1] at h3;cases h3
  refine ⟨fun h0=>?_,fun j hj=>?_⟩;exfalso
  match L,hn,hL with
  | i::rest,_,hL =>
   have ai:=(hL.w i).1 CW;have ag:ops[i]? = some ops[i]:=Fe ai.1
   have:i∈Region.ready .any ops listed:=by
    refine mem_ready.2 ⟨ai.2,_,ag,fun e he hb=>?_⟩;have ao:=ok.lt i _ e ag he hb
    have an:e.on∉i::rest:=by
     intro hm;rcases Fy.1 hm with hm|hm;omega;have:=(EG.1 hL.sorted).1 _ hm;omega
    have ah:e.on<listed.size:=by rw [hL.size];omega
    cases hl:listed.getD e.on true with
    | false=>exact absurd ((hL.w e.on).2 ⟨by rw [← hL.size];exact ah,hl⟩) an
    | true=>simpa [ah] using hl
   rw [h0] at this;cases this
  obtain ⟨oj,ab,af,aa⟩:=ak j hj;have aj:∀ i∈L,wt j i=false:=hL.bi ok j j oj (DV _) ab aa;have ae:=hL.step ab aa;have ac:(L.erase j).length=n:=by rw [GB af];omega
  unfold wpOpIn;simp only [ab];by_cases hc:cl j=0∨cl j=3;obtain ⟨v,h1,h2,h3⟩:=uK ok ab hc n L a w hn nd af aj h;have ad:=ih (L.erase j) _ (a.put oj.dst v) w ac ae h3;by_cases hwj:Dt oj (yielded ops a.tmps)=true;rw [CP hwj];have hr:=h1 hwj w (.inr (IF.refl _ _));refine ⟨fun _ _=>BN,?_⟩;rw [Pa hr (fun d h=>by cases h),hr];exact ad;rw [CJ hwj];have:=h2 (by simpa using hwj);subst this;exact ⟨fun _ _=>BN,ad⟩;have h1:=tC al ok ab hc n L a w hn nd af aj h;by_cases hwj:Dt oj (yielded ops a.tmps)=true;rw [CP hwj] at h1 ⊢;refine MB.wpIn (Z:=Z) (gr:=cl j == 1) (row:=row) ?_ (fun ch w' h=>hZ _ _ _ h);exact h1.turn rfl (fun _ _ h=>h) fun v w' _ hk=>ih (L.erase j) _ _ w' ac ae hk;rw [CJ hwj] at h1 ⊢;exact ⟨fun _ _=>BN,ih (L.erase j) _ _ w ac ae h1⟩
theorem SH{ρ:Option Nat}(aa:∀ ch (a:Act) d v w,(∃ (i:Nat) (o:Oper),ops[i]? = some o∧o.dst=d)→Z ch (a.put d v) w→Z ch a w)(ok:NQ ops cl wt){id:Nat}{Q:Exit→Act→Ad→Prop}(hZ:∀ ch a w,Z ch a w→Q (.panic ch) a w){a:Act}{w:Ad}(hm:P.follows .mixedOrders=true)
 (h:Gu P Z ops cl wt row (fun a w=>Q .normal a w) ops.size (Cr ops.size) a w.drew):(Code.region id ops true).wpIn (Kb ρ) 0 P Q a w:=by
 refine wpIn_region_any hm ?_;have:=nL (Q:=Q) (ρ:=ρ) aa ok (fun _ _ h=>h) hZ ops.size (Cr ops.size) (It ops.size false) a w.drew BI (dF ops) h;simpa using this
end
def OI(ops:Array Oper)(cl:List Nat)(ms:List Nat)(E:List (Nat×Oper×Nat))(k:Nat)(o:Oper):Bool :=
 S4 o&&o.after.toList.all (fun e=>!Ij .any e || AN e.on k)&&Ap (ms.getD k 0) (NO ms o.after.toList) &&
 E.all (fun p=>(ms.getD k 0).testBit p.1 || (!(Ap p.2.2 0 || Ap p.2.2 3) && !(Ap (Bw cl k) 0 || Ap (Bw cl k) 3)) || (p.2.1.apart ops o&&(Ap p.2.2 3 || Ap (Bw cl k) 3 || (Ap p.2.2 0&&DF (Bw cl k) 1) || (Ap (Bw cl k) 0&&DF p.2.2 1))))
def SD(ops:Array Oper)(cl:List Nat)(ms:List Nat):List (Nat×Oper×Nat)→Nat→List Oper→Bool
 | _,_,[]=>true
 | E,k,o::rest=>OI ops cl ms E k o&&SD ops cl ms ((k,o,Bw cl k)::E) (k+1) rest
def Qc(l:List Oper)(cl:List Nat)(ms:List Nat):Bool:=SD l.toArray cl ms [] 0 l&&DF ms.length l.length
theorem XU(ops:Array Oper)(cl:List Nat)(ms:List Nat):∀ (l:List Oper) (E:List (Nat×Oper×Nat)) (k:Nat),
  (∀ j,l[j]? = ops[k+j]?)→(∀ i,i<k→∃ oi,ops[i]? = some oi∧(i,oi,Bw cl i)∈E)→SD ops cl ms E k l=true→
  ∀ j oj,k≤j→ops[j]? = some oj→∃ E',(∀ i,i<j→∃ oi,ops[i]? = some oi∧(i,oi,Bw cl i)∈E')∧OI ops cl ms E' j oj=true
 | [],_,k,hl,_,_=>by
  intro j oj aa hj;have:=hl (j-k);rw [show k+(j-k)=j by omega,hj] at this;simp at this
 | o::rest,E,k,hl,hE,h=>by
  intro j oj aa hj;unfold SD at h;rw [Bh] at h;have h0:ops[k]? = some o:=by simpa using (hl 0).symm
  by_cases hjk:j=k;subst hjk;obtain rfl:o=oj:=EM (h0.symm.trans hj);exact ⟨E,hE,h.1⟩;refine XU ops cl ms rest ((k,o,Bw cl k)::E) (k+1) (fun j=>by have:=hl (j+1);simpa [IG,Nat.add_comm 1 j] using this) ?_ h.2 j oj O hj;intro i hi;by_cases hik:i=k;subst hik;exact ⟨o,h0,CW⟩;obtain ⟨oi,h1,h2⟩:=hE i O;exact ⟨oi,h1,Eb _ h2⟩
theorem Tp{l:List Oper}{cl:List Nat}{ms:List Nat}(h:Qc l cl ms=true):NQ l.toArray (Bw cl) (Iw ms):=by
 unfold Qc at h;rw [Bh] at h;obtain ⟨h,ad⟩:=h;have S:=XU l.toArray cl ms l [] 0 BI (fun i hi=>absurd hi O) h;have at_:∀ j oj,l.toArray[j]? = some oj→∃ E',(∀ i,i<j→∃ oi,l.toArray[i]? = some oi∧(i,oi,Bw cl i)∈E')∧OI l.toArray cl ms E' j oj=true:=fun j oj hj=>S j oj (Nat.zero_le _) hj;refine ⟨?_,?_,?_,?_⟩;intro j o cs b hj ac;obtain ⟨E',_,hh⟩:=at_ j o hj;simp [OI,S4,ac] at hh;intro j o i hj hw;obtain ⟨E',_,hh⟩:=at_ j o hj;simp only [OI,Bh] at hh;have hm:=BM hh.1.2;unfold Iw at hw;rw [hm] at hw;obtain ⟨e,h1,h2⟩:=SA ms i _ hw;exact ⟨e,G0.1 h1,h2⟩;intro j o e hj he hb;obtain ⟨E',_,hh⟩:=at_ j o hj;simp only [OI,Bh,Dv,G0,E1,Bool.not_eq_true'] at hh;rcases hh.1.1.2 e he with h1|h1;rw [hb] at h1;cases h1;exact Dg h1;intro i j oi oj ab hi hj hw;obtain ⟨E',hE,hh⟩:=at_ j oj hj;simp only [OI,Bh,Dv] at hh;obtain ⟨aa,h1,h2⟩:=hE i ab;obtain rfl:aa=oi:=EM (h1.symm.trans hi);have h3:=hh.2 _ h2;unfold Iw at hw;dsimp only at h3;rw [hw] at h3;have e:∀ (a b:Nat),Ap a b=true↔a=b:=fun a b=>⟨BM,fun h=>by subst h;exact Hf a⟩;have e':∀ (a b:Nat),DF a b=true↔a≤b:=fun a b=>⟨Dg,QV⟩;simp only [Jo,E1,Bh,Bool.not_eq_true',← Bool.not_eq_true,e,e'] at h3;rcases h3 with h3|⟨ha,h3⟩;exact .inl ⟨h3.1,h3.2⟩;refine .inr ⟨ha,?_⟩;rcases h3 with ((h3|h3)|h3)|h3;exact .inl h3;exact .inr (.inl h3);exact .inr (.inr (.inl h3));exact .inr (.inr (.inr h3))
def QH(cl:List Nat)(j:Nat):Bool:=Ap (Bw cl j) 0 || Ap (Bw cl j) 3
def LH(ms:List Nat)(L:List Nat)(j:Nat):Bool:=L.all fun i=>!(Iw ms j i)
def Vp(cl ms L:List Nat):List Nat:=L.filter fun j=>LH ms L j
theorem PO(ms:List Nat)(L:List Nat)(j:Nat):LH ms L j=true↔Mw (Iw ms) L j:=by
 unfold LH Mw;simp [Dv]
theorem jH(cl:List Nat)(j:Nat):QH cl j=true↔(Bw cl j=0∨Bw cl j=3):=by
 unfold QH;rw [E1];exact ⟨fun h=>h.imp BM BM,fun h=>h.imp (fun e=>by rw [e];rfl) (fun e=>by rw [e];rfl)⟩
structure G9 (P:BH) (Z:List Bd→Act→Ad→Prop) (ops:List Oper) (cl ms:List Nat) (row:H0) (n:Nat) (H':Act→Ad→Prop) (m:Nat) (L:List Nat) (σ:List Ce) (w:Ad):Prop where mk ::
  h:∀ a,Cx n σ a→Gu P Z ops.toArray (Bw cl) (Iw ms) row H' m L a w
section
variable {P:BH} {Z:List Bd→Act→Ad→Prop} {ops:List Oper} {cl ms:List Nat} {row:H0} {n:Nat} {H':Act→Ad→Prop} {m:Nat} {L L':List Nat} {σ:List Ce} {w:Ad} {d:Nat} {op:Op} {ty:Aw} {pos:String} {after:Array Edge} {v:Ak}
instance:CoeFun (G9 P Z ops cl ms row n H' m L σ w) fun _=>∀ a,Cx n σ a→Gu P Z ops.toArray (Bw cl) (Iw ms) row H' m L a w:=⟨G9.h⟩
theorem FF(h:∀ a,Cx n σ a→H' a w):G9 P Z ops cl ms row n H' 0 [] σ w:=.mk fun a ha=>⟨rfl,h a ha⟩
theorem Kf(τ:List Ce)(hs:Hs τ σ)(h:G9 P Z ops cl ms row n H' m L τ w):G9 P Z ops cl ms row n H' m L σ w:=.mk fun a ha=>h a (ha.sub hs)
theorem LB(r:Nat)(hr:ops.toArray[r]? = some ⟨some d,op,ty,pos,after,none⟩)(hb:(L.contains r&&LH ms L r&&Ap (Bw cl r) 0&&AN d n)=true)(hL:L.erase r=L')
 (hv:∀ w1,IF row w w1→DB P n σ True w1 op ty v) (h:G9 P Z ops cl ms row n H' m L' ((d,True,v) :: σ) w):G9 P Z ops cl ms row n H' (m+1) L σ w:=.mk fun a ha=>by
 simp only [Bh] at hb;obtain ⟨⟨⟨h1,h2⟩,h3⟩,h4⟩:=hb;refine .inl ⟨r,by simpa using h1,(PO ms L r).1 h2,.inl (BM h3),_,hr,v,fun _ w1 hg=>?_,(fun hn=>by cases hn),hL▸h _ (ha.put h4 (fun _=>U) (fun hn=>absurd BN hn))⟩;rcases hg with hg|hg;rw [BM h3] at hg;cases hg;exact hv w1 hg _ _ _ _ a ha BN w1 (G.refl _)
theorem GO(r:Nat)(hr:ops.toArray[r]? = some ⟨some d,op,ty,pos,after,none⟩)(hb:(L.contains r&&LH ms L r&&Ap (Bw cl r) 3&&AN d n)=true)(hL:L.erase r=L')
 (hv:∀ wb,DB P n σ True wb op ty v) (h:G9 P Z ops cl ms row n H' m L' ((d,True,v) :: σ) w):G9 P Z ops cl ms row n H' (m+1) L σ w:=.mk fun a ha=>by
 simp only [Bh] at hb;obtain ⟨⟨⟨h1,h2⟩,h3⟩,h4⟩:=hb;exact .inl ⟨r,by simpa using h1,(PO ms L r).1 h2,.inr (BM h3),_,hr,v,fun _ w1 hg=>hv w1 _ _ _ _ a ha BN w1 (G.refl _),(fun hn=>by cases hn),hL▸h _ (ha.put h4 (fun _=>rfl) (fun hn=>absurd BN hn))⟩
open Classical in
theorem JP{g t:Nat}{want b:Bool}{c0:Prop}(r:Nat)(hr:ops.toArray[r]? = some ⟨some d,op,ty,pos,after,some (g,want)⟩)(hb:(L.contains r&&LH ms L r&&Ap (Bw cl r) 0&&AN d n)=true)(hL:L.erase r=L')
 (ac:((ops.toArray[g]?).bind (·.dst))=some t) (ab:Ey σ t=some (c0,.bool b))
 (hv:∀ w1,IF row w w1→DB P n σ (c0∧b=want) w1 op ty v) (h:G9 P Z ops cl ms row n H' m L' ((d,c0∧b=want,v) :: σ) w):G9 P Z ops cl ms row n H' (m+1) L σ w:=.mk fun a ha=>by
 simp only [Bh] at hb;obtain ⟨⟨⟨h1,h2⟩,h3⟩,h4⟩:=hb;have hw:=Nk (op:=op) (ty:=ty) (pos:=pos) (after:=after) (want:=want) (d:=some d) ac ab ha;refine .inl ⟨r,by simpa using h1,(PO ms L r).1 h2,.inl (BM h3),_,hr,if c0∧b=want then v else undef,fun aa w1 hg=>?_,fun hn=>?_,hL▸h _ (ha.put h4 (fun hh=>CP hh) (fun hh=>CJ hh))⟩;rcases hg with hg|hg;rw [BM h3] at hg;cases hg;rw [CP (hw.1 aa)];exact hv w1 hg _ _ _ _ a ha (hw.1 aa) w1 (G.refl _);rw [CJ (fun hh=>by rw [hw.2 hh] at hn;cases hn)]
open Classical in
theorem GD{g t:Nat}{want b:Bool}{c0:Prop}(r:Nat)(hr:ops.toArray[r]? = some ⟨some d,op,ty,pos,after,some (g,want)⟩)(hb:(L.contains r&&LH ms L r&&Ap (Bw cl r) 3&&AN d n)=true)(hL:L.erase r=L')
 (ac:((ops.toArray[g]?).bind (·.dst))=some t) (ab:Ey σ t=some (c0,.bool b))
 (hv:∀ wb,DB P n σ (c0∧b=want) wb op ty v) (h:G9 P Z ops cl ms row n H' m L' ((d,c0∧b=want,v) :: σ) w):G9 P Z ops cl ms row n H' (m+1) L σ w:=.mk fun a ha=>by
 simp only [Bh] at hb;obtain ⟨⟨⟨h1,h2⟩,h3⟩,h4⟩:=hb;have hw:=Nk (op:=op) (ty:=ty) (pos:=pos) (after:=after) (want:=want) (d:=some d) ac ab ha;refine .inl ⟨r,by simpa using h1,(PO ms L r).1 h2,.inr (BM h3),_,hr,if c0∧b=want then v else undef,fun aa w1 hg=>?_,fun hn=>?_,hL▸h _ (ha.put h4 (fun hh=>CP hh) (fun hh=>CJ hh))⟩;rw [CP (hw.1 aa)];exact hv w1 _ _ _ _ a ha (hw.1 aa) w1 (G.refl _);rw [CJ (fun hh=>by rw [hw.2 hh] at hn;cases hn)]
def Po(P:BH)(Z:List Bd→Act→Ad→Prop)(ops:List Oper)(cl ms:List Nat)(row:H0)(n:Nat)(H':Act→Ad→Prop)(m:Nat)(L:List Nat)(σ:List Ce)(w:Ad)(j:Nat):Prop :=
 ∀ a,Cx n σ a→∃ o,ops.toArray[j]? = some o∧if Dt o (yielded ops.toArray a.tmps)=true then MB P Z row (Bw cl j == 1) o a w (fun a' w'=>Gu P Z ops.toArray (Bw cl) (Iw ms) row H' m (L.erase j) a' w')
  else Gu P Z ops.toArray (Bw cl) (Iw ms) row H' m (L.erase j) (a.put o.dst undef) w
theorem YH(cs:List Nat)(hb:L.all (fun r=>!(LH ms L r&&QH cl r))=true)(hc:Vp cl ms L=cs)(h:∀ j∈cs,Po P Z ops cl ms row n H' m L σ w j):G9 P Z ops cl ms row n H' (m+1) L σ w:=.mk fun a ha=>by
 refine .inr ⟨fun r hr aa ab=>?_,fun j hj aa=>?_⟩;have:=Dv.1 hb r hr;rw [(PO ms L r).2 aa,(jH cl r).2 ab] at this;cases this;exact h j (by rw [← hc];exact List.mem_filter.2 ⟨hj,(PO ms L j).2 aa⟩) a ha
theorem AQ(j:Nat)(hb:L.all (fun r=>!(LH ms L r&&QH cl r))=true)(hc:Vp cl ms L=[j])(h:Po P Z ops cl ms row n H' m L σ w j):G9 P Z ops cl ms row n H' (m+1) L σ w :=
 YH [j] hb hc fun i hi=>by rw [FS.1 hi];exact h
theorem KM(j k:Nat)(hb:L.all (fun r=>!(LH ms L r&&QH cl r))=true)(hc:Vp cl ms L=[j,k])(h:Po P Z ops cl ms row n H' m L σ w j)(h':Po P Z ops cl ms row n H' m L σ w k):G9 P Z ops cl ms row n H' (m+1) L σ w :=
 YH [j,k] hb hc fun i hi=>by
 rcases Fy.1 hi with rfl|hi;exact h;rw [FS.1 hi];exact h'
theorem Br{j:Nat}{o:Oper}(aa:List Nat)(ho:ops.toArray[j]? = some o)(hL:L.erase j=L')(hc:(Ap (Bw aa j) 0 || Ap (Bw aa j) 3)=false)
 (h:Bv P Z ops aa [] w n (fun a' w'=>IF row w w'∧Gu P Z ops.toArray (Bw cl) (Iw ms) row H' m L' a' w') j [o] σ w):Po P Z ops cl ms row n H' m L σ w j:=fun a ha=>by
 subst hL
 have h1:=h (fun i o' h=>by cases i with
  | zero=>injection h with h;subst h;exact ho
  | succ i=>cases h) a ha
 have ae:¬ (Bw aa j=0∨Bw aa j=3):=by
  intro e;rw [RQ] at hc;rcases e with e|e <;> rw [e] at hc <;> simp at hc
 obtain ⟨o',ad,h2⟩:=h1;obtain rfl:o'=o:=EM (ad.symm.trans ho);rw [CJ ae] at h2;refine ⟨o',ho,?_⟩;by_cases hw:Dt o' (yielded ops.toArray a.tmps)=true;rw [CP hw] at h2 ⊢;rcases h2 with ⟨v,w',hr,_,hn⟩|⟨w',hr,_,hn⟩|⟨f,ac,hr,ab⟩|⟨l,f,tmps,af,body,hr,ab⟩;exact .inl ⟨v,w',hr,fun _=>hn.1,hn.2⟩;exact .inr (.inl ⟨w',hr,fun _=>hn.1,hn.2⟩);refine .inr (.inr (.inl ⟨f,ac,hr,Calls.mono ab fun e w' h=>?_⟩));rcases h with ⟨v,he,_,hn⟩|h;exact .inl ⟨v,he,fun _=>hn.1,hn.2⟩;exact .inr h;exact .inr (.inr (.inr ⟨l,f,tmps,af,body,hr,RoundIn.mono ab fun e w' ⟨v,he,_,hn⟩=>⟨v,he,fun _=>hn.1,hn.2⟩⟩));rw [CJ hw] at h2 ⊢;exact h2.2
theorem Ds{j:Nat}{o:Oper}(aa:List Nat)(ho:ops.toArray[j]? = some o)(hL:L.erase j=L')(hc:(Ap (Bw aa j) 0 || Ap (Bw aa j) 3)=false)(ad:Ap (Bw cl j) 1=false)
 (h:Bv P Z ops aa [] w n (fun a' w'=>Gu P Z ops.toArray (Bw cl) (Iw ms) row H' m L' a' w') j [o] σ w):Po P Z ops cl ms row n H' m L σ w j:=fun a ha=>by
 subst hL
 have h1:=h (fun i o' h=>by cases i with
  | zero=>injection h with h;subst h;exact ho
  | succ i=>cases h) a ha
 have ag:¬ (Bw aa j=0∨Bw aa j=3):=by
  intro e;rw [RQ] at hc;rcases e with e|e <;> rw [e] at hc <;> simp at hc
 have ac:(Bw cl j == 1)=false:=by
  cases h:(Bw cl j == 1) with
  | false=>rfl
  | true=>rw [eq_of_beq h] at ad;cases ad
 obtain ⟨o',af,h2⟩:=h1;obtain rfl:o'=o:=EM (af.symm.trans ho);rw [CJ ag] at h2;refine ⟨o',ho,?_⟩;rw [ac];by_cases hw:Dt o' (yielded ops.toArray a.tmps)=true;rw [CP hw] at h2 ⊢;rcases h2 with ⟨v,w',hr,_,hn⟩|⟨w',hr,_,hn⟩|⟨f,ae,hr,ab⟩|⟨l,f,tmps,ah,body,hr,ab⟩;exact .inl ⟨v,w',hr,(fun h=>by cases h),hn⟩;exact .inr (.inl ⟨w',hr,(fun h=>by cases h),hn⟩);refine .inr (.inr (.inl ⟨f,ae,hr,Calls.mono ab fun e w' h=>?_⟩));rcases h with ⟨v,he,_,hn⟩|h;exact .inl ⟨v,he,(fun h=>by cases h),hn⟩;exact .inr h;exact .inr (.inr (.inr ⟨l,f,tmps,ah,body,hr,RoundIn.mono ab fun e w' ⟨v,he,_,hn⟩=>⟨v,he,(fun h=>by cases h),hn⟩⟩));rw [CJ hw] at h2 ⊢;exact h2
theorem Dr{aa:List Nat}{W0:Ad}{k:Nat}(h:G9 P Z ops cl ms row n H' m L σ w):Bv P Z ops aa [] W0 n (fun a' w'=>Gu P Z ops.toArray (Bw cl) (Iw ms) row H' m L a' w') k [] σ w:=Al h
theorem Bs{aa:List Nat}{W0 w0:Ad}{k:Nat}(hg:IF row w0 w)(h:G9 P Z ops cl ms row n H' m L σ w):Bv P Z ops aa [] W0 n (fun a' w'=>IF row w0 w'∧Gu P Z ops.toArray (Bw cl) (Iw ms) row H' m L a' w') k [] σ w:=Al fun a ha=>⟨hg,h a ha⟩
end
section
variable {P:BH} {B:List Bd→Ad→Prop} {n:Nat} {N T:Act→Ad→Prop} {X:List (Nat×(Act→Ad→Prop))} {σ:List Ce} {w:Ad}
theorem DE{id:Nat}{l:List Oper}(row:H0)(cl:List Nat)(ms:List Nat)(hm:P.follows .mixedOrders=true)(aa:Qc l cl ms=true)(L:List Nat)(hL:Cr l.length=L)
 (h:G9 P (Ll B) l cl ms row n N l.length L σ w.drew):EW P B n (.region id l.toArray true) N X T σ w:=.mk fun a ha=>by
 have h1:=h a ha;subst hL;have h2:Gu P (Ll B) l.toArray (Bw cl) (Iw ms) row (fun a w=>(Ls N X T B) .normal a w) l.toArray.size (Cr l.toArray.size) a w.drew:=by simpa [Ls] using h1
 exact wpIn_wide.1 (SH (ρ:=none) (fun _ a d v _ _ h=>⟨by cases d <;> exact h.1,h.2⟩) (Tp aa) (fun _ _ _ h=>h) hm h2)
end
section
variable {P:BH} {n:Nat} {σ:List Ce} {c:Prop} {wb:Ad} {ty:Aw} {v:Ak}
end
section
variable {P:BH} {Z:List Bd→Act→Ad→Prop} {ops:List Oper} {cl:List Nat} {lv:List Bool} {W0:Ad} {n:Nat} {H':Act→Ad→Prop} {k:Nat} {rest:List Oper} {σ:List Ce} {w:Ad} {d:Nat} {ty:Aw} {pos:String} {after:Array Edge}
theorem Tl{g t:Nat}{want b:Bool}{c0:Prop}{op:Op}{f:FuncId}{args:Array Ak}{G':Ak→Ad→Prop}(hb:(!Ap (Bw cl k) 0 && !Ap (Bw cl k) 3&&AN d n)=true)
  (ab:((ops.toArray[g]?).bind (·.dst))=some t) (aa:Ey σ t=some (c0,.bool b)) (hr:c0∧b=want→Ol P n σ (c0∧b=want) w op ty f args) (hC:c0∧b=want→Bx P f args w fun v w'=>G' v w'∧G w w')
  (h:∀ v w',(c0∧b=want→G' v w')→G w w'→Bv P Z ops cl lv W0 n H' (k+1) rest ((d,c0∧b=want,v) :: σ) w') :
  Bv P Z ops cl lv W0 n H' k (⟨some d,op,ty,pos,after,some (g,want)⟩::rest) σ w :=
 vI hb ab aa hr hC (fun v w' _ hv=>⟨fun _=>hv.2,h v w' (fun _=>hv.1) hv.2⟩) (fun hn=>h undef w (fun hc=>absurd hc hn) (G.refl w))
end
def FG(σ:List Ce):A7→Option (Prop×Ak)
 | .tmp t=>Ey σ t
 | .const v=>some (True,v)
 | .global g=>some (True,.pointer (some ⟨g,0,none⟩))
 | .func f=>some (True,.func (.func f) #[] #[])
section
variable {n:Nat} {σ:List Ce} {c:Prop} {v:Ak}
theorem FT{x:A7}(h:FG σ x=some (True,v)):Bz n σ c x v:=by
 cases x with
 | tmp t=>exact H h
 | const u=>injection h with h;injection h with _ h;subst h;exact Bl
 | global g=>injection h with h;injection h with _ h;subst h;exact IE
 | func f=>injection h with h;injection h with _ h;subst h;exact Cf
theorem CT:Kj n σ c [] []:=CY
theorem CF{x:A7}{u:Ak}{xs:List A7}{vs:List Ak}(h:FG σ x=some (True,u))(k:Kj n σ c xs vs):Kj n σ c (x::xs) (u::vs):=Cu (FT h) k
theorem Cz:MF n σ c #[] []:=Ia
theorem A5{i:Nat}{x:A7}{u:Ak}{ps:List (Nat×A7)}{vs:List (Nat×Ak)}(h:FG σ x=some (True,u))(k:MF n σ c ps.toArray vs):MF n σ c ((i,x)::ps).toArray ((i,u)::vs):=JG (FT h) k
end
section
variable {P:BH} {Z:List Bd→Act→Ad→Prop} {ops:List Oper} {cl:List Nat} {lv:List Bool} {W0:Ad} {n:Nat} {H':Act→Ad→Prop} {k:Nat} {rest:List Oper} {σ:List Ce} {w:Ad} {d:Nat} {op:Op} {ty:Aw} {pos:String} {after:Array Edge} {v:Ak} {x y:A7}
section
theorem As(hx:FG σ x=some (True,v))(h:Bv P Z ops cl lv W0 n H' (k+1) rest ((d,True,v) :: σ) w)(hb:(Ap (Bw cl k) 3&&AN d n)=true:=by exact rfl):Bv P Z ops cl lv W0 n H' k (⟨some d,.move x,ty,pos,after,none⟩::rest) σ w:=AG hb (fun _=>A9 (FT hx)) h
theorem BO(hx:FG σ x=some (True,v))(h:Bv P Z ops cl lv W0 n H' (k+1) rest ((d,True,v) :: σ) w)(hb:(Ap (Bw cl k) 3&&AN d n)=true:=by exact rfl):Bv P Z ops cl lv W0 n H' k (⟨some d,.assign x,ty,pos,after,none⟩::rest) σ w:=AG hb (fun _=>Eu (FT hx)) h
theorem Dd{a:Addr}(hx:FG σ x=some (True,.pointer (some a)))(h:Bv P Z ops cl lv W0 n H' (k+1) rest ((d,True,.pointer (some a)) :: σ) w)(hb:(Ap (Bw cl k) 3&&AN d n)=true:=by exact rfl):Bv P Z ops cl lv W0 n H' k (⟨some d,.nilCheck x,ty,pos,after,none⟩::rest) σ w:=AG hb (fun _=>F8 (FT hx)) h
theorem AF{s j aa b o:Nat}(hf:EB P s j=some aa)(hx:FG σ x=some (True,.pointer (some ⟨b,o,none⟩)))(h:Bv P Z ops cl lv W0 n H' (k+1) rest ((d,True,.pointer (some ⟨b,o+aa,none⟩)) :: σ) w)(hb:(Ap (Bw cl k) 3&&AN d n)=true:=by exact rfl):Bv P Z ops cl lv W0 n H' k (⟨some d,.fieldAddr s x j,ty,pos,after,none⟩::rest) σ w:=AG hb (fun _=>AE hf (FT hx)) h
theorem TV{t:Aw}{i:Bool}(hx:FG σ x=some (True,.bool i))(h:Bv P Z ops cl lv W0 n H' (k+1) rest ((d,True,.bool (!i)) :: σ) w)(hb:(Ap (Bw cl k) 3&&AN d n)=true:=by exact rfl):Bv P Z ops cl lv W0 n H' k (⟨some d,.unOp .not t x,ty,pos,after,none⟩::rest) σ w:=AG hb (fun _=>Nl (FT hx)) h
theorem FM{t u:Aw}{q:IntKind}{i j:Int}(hx:FG σ x=some (True,.int q i))(hy:FG σ y=some (True,.int q j))(h:Bv P Z ops cl lv W0 n H' (k+1) rest ((d,True,.bool (Ae (i=j))) :: σ) w)(hb:(Ap (Bw cl k) 3&&AN d n)=true:=by exact rfl):Bv P Z ops cl lv W0 n H' k (⟨some d,.binOp .eql t x y u,ty,pos,after,none⟩::rest) σ w:=AG hb (fun _=>GA (FT hx) (FT hy)) h
theorem MU{t u:Aw}{q:IntKind}{i j:Int}(hx:FG σ x=some (True,.int q i))(hy:FG σ y=some (True,.int q j))(h:Bv P Z ops cl lv W0 n H' (k+1) rest ((d,True,.bool (!Ae (i=j))) :: σ) w)(hb:(Ap (Bw cl k) 3&&AN d n)=true:=by exact rfl):Bv P Z ops cl lv W0 n H' k (⟨some d,.binOp .neq t x y u,ty,pos,after,none⟩::rest) σ w:=AG hb (fun _=>KP (FT hx) (FT hy)) h
theorem G2{t u:Aw}{q:IntKind}{i j:Int}(hx:FG σ x=some (True,.int q i))(hy:FG σ y=some (True,.int q j))(h:Bv P Z ops cl lv W0 n H' (k+1) rest ((d,True,.bool (Ae (i<j))) :: σ) w)(hb:(Ap (Bw cl k) 3&&AN d n)=true:=by exact rfl):Bv P Z ops cl lv W0 n H' k (⟨some d,.binOp .lss t x y u,ty,pos,after,none⟩::rest) σ w:=AG hb (fun _=>Pn (FT hx) (FT hy)) h
theorem RJ{t u:Aw}{q:IntKind}{i j:Int}(hx:FG σ x=some (True,.int q i))(hy:FG σ y=some (True,.int q j))(h:Bv P Z ops cl lv W0 n H' (k+1) rest ((d,True,.bool (Ae (j<i))) :: σ) w)(hb:(Ap (Bw cl k) 3&&AN d n)=true:=by exact rfl):Bv P Z ops cl lv W0 n H' k (⟨some d,.binOp .gtr t x y u,ty,pos,after,none⟩::rest) σ w:=AG hb (fun _=>QJ (FT hx) (FT hy)) h
theorem NE{t u:Aw}{q:IntKind}{i j:Int}(hx:FG σ x=some (True,.int q i))(hy:FG σ y=some (True,.int q j))(h:Bv P Z ops cl lv W0 n H' (k+1) rest ((d,True,.bool (Ae (j≤i))) :: σ) w)(hb:(Ap (Bw cl k) 3&&AN d n)=true:=by exact rfl):Bv P Z ops cl lv W0 n H' k (⟨some d,.binOp .geq t x y u,ty,pos,after,none⟩::rest) σ w:=AG hb (fun _=>P4 (FT hx) (FT hy)) h
theorem Mb{t u:Aw}{i j:List UInt8}(hx:FG σ x=some (True,Co i))(hy:FG σ y=some (True,Co j))(h:Bv P Z ops cl lv W0 n H' (k+1) rest ((d,True,.bool (Ae (i=j))) :: σ) w)(hb:(Ap (Bw cl k) 3&&AN d n)=true:=by exact rfl):Bv P Z ops cl lv W0 n H' k (⟨some d,.binOp .eql t x y u,ty,pos,after,none⟩::rest) σ w:=AG hb (fun _=>QC (FT hx) (FT hy)) h
theorem Li{i:Nat}{vs:Array Ak}(hx:FG σ x=some (True,.tuple vs))(hv:vs[i]? = some v)(h:Bv P Z ops cl lv W0 n H' (k+1) rest ((d,True,v) :: σ) w)(hb:(Ap (Bw cl k) 3&&AN d n)=true:=by exact rfl):Bv P Z ops cl lv W0 n H' k (⟨some d,.extract x i,ty,pos,after,none⟩::rest) σ w:=AG hb (fun _=>FW (FT hx) hv) h
end
theorem AL{t b o:Nat}(ht:G4 P t=true)(hx:FG σ x=some (True,.pointer (some ⟨b,o,none⟩)))(hc:w.cell? ⟨b,o,none⟩=some v)(h:Bv P Z ops cl lv W0 n H' (k+1) rest ((d,True,v) :: σ) w)(hb:(Ap (Bw cl k) 0&&Ji lv k&&AN d n)=true:=by exact rfl):Bv P Z ops cl lv W0 n H' k (⟨some d,.load t x,ty,pos,after,none⟩::rest) σ w:=Ep hb (AU ht (FT hx) (fun _=>hc)) h
theorem CH{t b o z:Nat}{l:List Ak}(ht:KW P t=some z)(hx:FG σ x=some (True,.pointer (some ⟨b,o,none⟩)))(hl:l.length=z)(hc:Cv w b o l)(h:Bv P Z ops cl lv W0 n H' (k+1) rest ((d,True,.agg l.toArray) :: σ) w)(hb:(Ap (Bw cl k) 0&&Ji lv k&&AN d n)=true:=by exact rfl):Bv P Z ops cl lv W0 n H' k (⟨some d,.load t x,ty,pos,after,none⟩::rest) σ w:=Ep hb (A2 ht (FT hx) hl (fun _=>hc)) h
end
section
variable {P:BH} {B:List Bd→Ad→Prop} {n:Nat} {N T:Act→Ad→Prop} {X:List (Nat×(Act→Ad→Prop))} {σ:List Ce} {w:Ad}
theorem CB{x:A7}{b:Bool}{p q:Code}(hx:FG σ x=some (True,.bool b))(h1:b=true→EW P B n p N X T σ w)(h2:b=false→EW P B n q N X T σ w):EW P B n (.cond x p q) N X T σ w:=TM (FT hx) h1 h2
end
def fH(P:BH)(B:List Bd→Ad→Prop)(n:Nat)(y:Code)(N:Act→Ad→Prop)(X:List (Nat×(Act→Ad→Prop)))(T:Act→Ad→Prop)(a:Act)(u:Ad):Prop:=∃ τ,Cx n τ a∧EW P B n y N X T τ u
section
variable {P:BH} {B:List Bd→Ad→Prop} {n:Nat} {N T:Act→Ad→Prop} {X:List (Nat×(Act→Ad→Prop))} {σ:List Ce} {w:Ad}
theorem kq{y:Code}(h:EW P B n y N X T σ w):∀ a,Cx n σ a→fH P B n y N X T a w:=fun a ha=>⟨σ,ha,h⟩
theorem Ao{x y:Code}(h:EW P B n x (fH P B n y N X T) X T σ w):EW P B n (.seq x y) N X T σ w:=.mk fun a ha=>by
 refine wp_seq (Code.wp_mono (fun e a w q=>?_) (h a ha))
 cases e with
 | normal=>obtain ⟨τ,hk,hs⟩:=q;exact hs a hk
 | _=>exact q
end
theorem CO{a w w':Ad}{j:Nat}(h:G a w)(hg:w.grownBy w' (some j))(hj:a.heap.size≤j):G a w':=L7 h hg fun k hk=>by injection hk with hk;omega
theorem E3{p:Prop}(h:(2:Nat)=1):p:=absurd h Cb
def rN(o:Oper):Nat:=match o.op with
 | .load ..=>0
 | .move .. | .assign .. | .pick .. | .nilCheck .. | .binOp .. | .unOp .. | .makeInterface .. | .makeFunc .. | .slice .. | .fieldAddr .. | .field .. | .indexAddr .. | .index .. | .extract .. | .build ..=>3
 | .call c=>match c.callee with
  | .builtin .len=>3
  | _=>2
 | _=>2
theorem Ay{P:BH}{B:List Bd→Ad→Prop}{n:Nat}{N T:Act→Ad→Prop}{X:List (Nat×(Act→Ad→Prop))}{σ:List Ce}{w:Ad}{id:Nat}{l:List Oper}(h:Bv P (Ll B) l (l.map rN) [] w n N 0 l σ w):EW P B n (.region id l.toArray false) N X T σ w:=JZ _ h
section
variable {P:BH} {Z:List Bd→Act→Ad→Prop} {ops:List Oper} {cl ms:List Nat} {row:H0} {n:Nat} {H':Act→Ad→Prop} {m:Nat} {L:List Nat} {σ:List Ce} {w:Ad} {d:Nat} {op:Op} {ty:Aw} {pos:String} {after:Array Edge} {v:Ak}
theorem Bg(r:Nat)(hr:ops.toArray[r]? = some ⟨some d,op,ty,pos,after,none⟩)(hb:(L.contains r&&LH ms L r&&Ap (Bw cl r) 0&&AN d n)=true)
  (hv:∀ w1,IF row w w1→DB P n σ True w1 op ty v) (h:G9 P Z ops cl ms row n H' m (L.erase r) ((d,True,v) :: σ) w):G9 P Z ops cl ms row n H' (m+1) L σ w:=LB r hr hb rfl hv h
theorem Au(r:Nat)(hr:ops.toArray[r]? = some ⟨some d,op,ty,pos,after,none⟩)(hb:(L.contains r&&LH ms L r&&Ap (Bw cl r) 3&&AN d n)=true)
  (hv:∀ wb,DB P n σ True wb op ty v) (h:G9 P Z ops cl ms row n H' m (L.erase r) ((d,True,v) :: σ) w):G9 P Z ops cl ms row n H' (m+1) L σ w:=GO r hr hb rfl hv h
end
theorem Ho{a w:Ad}(g:G a w):G a w.drew:=g.trans (G.drew _)
theorem Ft{p A B:Prop}(h:A→B→p)(k:(A→B→p)→p:=by exact fun z=>z (Ho g) E.dr):p:=k h
theorem AX{n:Nat}{σ:List Ce}{w:Ad}:∀ a,Cx n σ a→Cx n σ a∧w=w:=fun _ h=>⟨h,rfl⟩
section
variable {P:BH} {Z:List Bd→Act→Ad→Prop} {ops:List Oper} {cl:List Nat} {lv:List Bool} {W0:Ad} {n:Nat} {H':Act→Ad→Prop} {k:Nat} {rest:List Oper} {σ:List Ce} {w:Ad} {d:Nat} {ty:Aw} {pos:String} {after:Array Edge} {t:Aw} {x y:A7} {b o z:Nat} {e:Aw} {u v:Ak} {l vs:List Ak}
theorem JK(hs:Ir P t=some 1)(hx:FG σ x=some (True,.pointer (some ⟨b,o,none⟩)))(hy:FG σ y=some (True,u))(hu:u.cells = #[v])(hB:Av w b e l)
  (h:∀ w1,w.grownBy w1 (some b)→w1.heap.size=w.heap.size→Av w1 b e (l.set o v)→Bv P Z ops cl lv W0 n H' (k+1) rest σ w1) (hb:Ap (Bw cl k) 2=true:=by exact rfl) (hfit:AN o l.length=true:=by exact rfl) (h1:v.oneCell'=true:=by exact rfl) :
  Bv P Z ops cl lv W0 n H' k (⟨none,.store t x y,ty,pos,after,none⟩::rest) σ w:=H1 hb hs (FT hx) (FT hy) hu hB hfit h1 h
theorem GW(hs:Ir P t=some z)(hx:FG σ x=some (True,.pointer (some ⟨b,0,none⟩)))(hy:FG σ y=some (True,u))(hu:u.cells=vs.toArray)(hB:Av w b e l)
  (h:∀ w1,w.grownBy w1 (some b)→w1.heap.size=w.heap.size→Av w1 b e vs→Bv P Z ops cl lv W0 n H' (k+1) rest σ w1) (hb:Ap (Bw cl k) 2=true:=by exact rfl) (hz:vs.length=z:=by exact rfl) (hfit:Ap vs.length l.length=true:=by exact rfl) (h1:LZ vs=true:=by exact rfl) :
  Bv P Z ops cl lv W0 n H' k (⟨none,.store t x y,ty,pos,after,none⟩::rest) σ w:=Hb hb hs (FT hx) (FT hy) hu hz hB hfit h1 h
theorem Gi{ps:Array (Nat×A7)}{vs:List (Nat×Ak)}{pl:List (Nat×Nat)}{z:Ak}{zl l:List Ak}(hz:Gc P t=some z)(hp:Lj P t=some pl)(hx:MF n σ True ps vs)(aa:z.cells=zl.toArray)
  (hl:NW (fun i=>pl[i]?) zl vs=some l) (h:Bv P Z ops cl lv W0 n H' (k+1) rest ((d,True,.agg l.toArray) :: σ) w) (hb:(Ap (Bw cl k) 3&&AN d n)=true:=by exact rfl) :
  Bv P Z ops cl lv W0 n H' k (⟨some d,.build t ps,ty,pos,after,none⟩::rest) σ w:=AG hb (fun _=>Jz l hz aa hp hx hl) h
theorem ED{t e z aa:Nat}{x:A7}{b:Option Addr}{m q:Nat}(ht:FQ P t=some (e,z,aa))(hx:FG σ x=some (True,.slice b m q))(h:Bv P Z ops cl lv W0 n H' (k+1) rest ((d,True,.int .i64 m) :: σ) w)(hb:(Ap (Bw cl k) 3&&AN d n)=true:=by exact rfl) :
  Bv P Z ops cl lv W0 n H' k (⟨some d,.call { callee:=.builtin .len,args:=#[x],argTypes:=#[t] },ty,pos,after,none⟩::rest) σ w:=AG hb (fun _=>LP ht (FT hx)) h
theorem Hh{t e z aa:Nat}{b o m q:Nat}{g:IntKind}{i:Int}(ht:FQ P t=some (e,z,aa))(hx:FG σ x=some (True,.slice (some ⟨b,o,none⟩) m q))(hy:FG σ y=some (True,.int g i))(hi:0≤i∧i<m)
  (h:Bv P Z ops cl lv W0 n H' (k+1) rest ((d,True,.pointer (some ⟨b,o+i.toNat*z,none⟩)) :: σ) w) (hb:(Ap (Bw cl k) 3&&AN d n)=true:=by exact rfl):Bv P Z ops cl lv W0 n H' k (⟨some d,.indexAddr t x y,ty,pos,after,none⟩::rest) σ w:=AG hb (fun _=>JH ht (FT hx) (FT hy) fun _=>hi) h
theorem IB{t u:Aw}{i j:Int}(hx:FG σ x=some (True,.int .i64 i))(hy:FG σ y=some (True,.int .i64 j))(hr : -9223372036854775808≤i+j∧i+j≤9223372036854775807)
  (h:Bv P Z ops cl lv W0 n H' (k+1) rest ((d,True,.int .i64 (i+j)) :: σ) w) (hb:(Ap (Bw cl k) 3&&AN d n)=true:=by exact rfl):Bv P Z ops cl lv W0 n H' k (⟨some d,.binOp .add t x y u,ty,pos,after,none⟩::rest) σ w:=AG hb (fun _=>TL (FT hx) (FT hy) fun _=>hr) h
end
theorem Du{a w w1:Ad}{b:Nat}{e:Aw}{l:List Ak}(h:Ks w w1 b e l)(g:a.heap.size≤w.heap.size):a.heap.size≤b:=by have:=h.j;omega
def Mp(w:Ad):List (Nat×Aw×List Ak)→Prop
 | []=>True
 | (b,e,l)::L=>Av w b e l∧Mp w L
def BT(w:Ad)(L:List (Nat×Aw×List Ak)):Prop:=(L.map Prod.fst).Nodup∧Mp w L
section
variable {w w':Ad} {L:List (Nat×Aw×List Ak)} {b:Nat} {e:Aw} {l l':List Ak} {x0 x1 x2 x3 x4 x5 x6 x7 x8 x9 x10 x11:Nat×Aw×List Ak}
theorem JN(w:Ad):BT w []:=⟨List.nodup_nil,BN⟩
theorem Yq:∀ {L:List (Nat×Aw×List Ak)} {i:Nat},Mp w L→L[i]? = some (b,e,l)→Av w b e l
 | [],i,_,h=>by simp at h
 | (b',e',l')::L,0,hA,h=>by injection h with h;injection h with h1 h2;injection h2 with h2 h3;subst h1 h2 h3;exact hA.1
 | (b',e',l')::L,i+1,hA,h=>Yq (L:=L) (i:=i) hA.2 h
theorem BT.g(E:BT w L)(i:Nat)(h:L[i]? = some (b,e,l)):Av w b e l:=Yq E.2 h
theorem Ov{w w':Ad}:∀ {L:List (Nat×Aw×List Ak)},Mp w L→(∀ b e l,(b,e,l)∈L→Av w b e l→Av w' b e l)→Mp w' L
 | [],_,_=>BN
 | (b,e,l)::L,h,f=>⟨f b e l CW h.1,Ov h.2 fun b e l hm hB=>f b e l (Eb _ hm) hB⟩
theorem BT.a(E:BT w L)(g:G w w'):BT w' L:=⟨E.1,Ov E.2 fun _ _ _ _ h=>h.a g⟩
theorem BT.dr(E:BT w L):BT w.drew L:=E.a (G.drew _)
theorem Vc{w:Ad}:∀ {L:List (Nat×Aw×List Ak)},Mp w L→∀ b∈L.map Prod.fst,b<w.heap.size
 | [],_,b,hm=>by cases hm
 | (b',e,l)::L,h,b,hm=>by
  rcases Fy.1 hm with q|q;subst q;exact h.1.lt;exact Vc h.2 b q
theorem BT.O(E:BT w L){X:List Nat}(h:∀ j∈X,j∈L.map Prod.fst):∀ j∈X,j<w.heap.size:=fun j hj=>Vc E.2 j (h j hj)
theorem BT.new(E:BT w L)(N:Ks w w' b e l):BT w' ((b,e,l)::L):=by
 refine ⟨MM.2 ⟨fun hm=>?_,E.1⟩,N.p,(E.a N.g).2⟩;have:=Vc E.2 b hm;have:=N.j;omega
theorem BT.A(E:BT w L){row:Option Nat}(hg:w.grownBy w' row)(h:∀ b∈L.map Prod.fst,some b≠row):BT w' L :=
 ⟨E.1,Ov E.2 fun b e l hm hB=>hB.A hg (h b (List.mem_map_of_mem (f:=Prod.fst) hm))⟩
theorem BT.ab(E:BT w L){row:Option Nat}{X:List Nat}(hg:w.grownBy w' row)(hn:∀ {b},b∈X→some b≠row)(h:∀ j∈L.map Prod.fst,j∈X):BT w' L:=E.A hg fun b hb=>hn (h b hb)
theorem KU{w:Ad}{b b':Nat}{e e':Aw}{l l':List Ak}(h:Av w b e l)(h':Av w b' e' l')(he:Ap e e'=false):b≠b':=fun q=>by
 subst q;unfold Av at h h';rw [h] at h';injection h' with h';injection h' with _ h';subst h';simp at he
theorem BT.ae(E:BT w L){j:Nat}{e':Aw}{xs:List Ak}(hg:w.grownBy w' (some j))(hB:Av w j e' xs)(ht:(L.all fun x=>!Ap x.2.1 e')=true):BT w' L :=
 ⟨E.1,Ov E.2 fun b e l hm h=>h.A hg fun q=>by
 injection q with q;have:=Dv.1 ht _ hm;exact KU h hB (by simpa using this) q⟩
theorem BT.az(E:BT w L){base z m:Nat}{e':Aw}{v:Ak}{xs:List Ak}(hO:w.ownsRow base e' z v m xs)(hg:w.grownBy w' v.ownBlock)(ht:(L.all fun x=>!Ap e' x.2.1)=true):BT w' L :=
 ⟨E.1,Ov E.2 fun b e l hm h=>h.A hg fun q=>by
 have aa:=Dv.1 ht _ hm;rcases hO.2 with ⟨h1,_⟩|⟨g,ab,ac,h1,h2,h3,_⟩;rw [h1] at q;cases q;rw [h1] at q;have:b=g:=by injection q
 subst this;unfold Av at h;rw [h] at h3;injection h3 with h3;injection h3 with _ h3;subst h3;simp at aa⟩
theorem XW{w w':Ad}{j:Nat}(hg:w.grownBy w' (some j)):∀ {L:List (Nat×Aw×List Ak)},j∉L.map Prod.fst→Mp w L→Mp w' L
 | [],_,_=>BN
 | (b,e,l)::L,hn,h=>⟨h.1.A hg fun q=>by injection q with q;subst q;exact hn CW,XW hg (fun q=>hn (Eb _ q)) h.2⟩
theorem BT.tl{x:Nat×Aw×List Ak}(E:BT w (x::L)):BT w L:=⟨(MM.1 E.1).2,E.2.2⟩
theorem BT.hd(E:BT w ((b,e,l)::L)):b∉L.map Prod.fst:=(MM.1 E.1).1
theorem BT.s0(E:BT w ((b,e,l)::L))(hg:w.grownBy w' (some b))(hB:Av w' b e l'):BT w' ((b,e,l')::L):=⟨E.1,hB,XW hg E.hd E.2.2⟩
theorem BT.up{x:Nat×Aw×List Ak}(E:BT w (x::L))(hg:w.grownBy w' (some b))(hm:b∈L.map Prod.fst){L':List (Nat×Aw×List Ak)}(h:BT w' L')(hL:L'.map Prod.fst=L.map Prod.fst):BT w' (x::L'):=by
 refine ⟨?_,?_,h.2⟩;show (x.1::L'.map Prod.fst).Nodup;rw [hL];exact E.1;obtain ⟨b',e',aa⟩:=x;exact E.2.1.A hg fun q=>by injection q with q;subst q;exact E.hd hm
theorem BT.s1(E:BT w (x0::(b,e,l)::L))(hg:w.grownBy w' (some b))(hB:Av w' b e l'):BT w' (x0::(b,e,l')::L):=E.up hg BI (E.tl.s0 hg hB) rfl
theorem BT.s2(E:BT w (x0::x1::(b,e,l)::L))(hg:w.grownBy w' (some b))(hB:Av w' b e l'):BT w' (x0::x1::(b,e,l')::L):=E.up hg BI (E.tl.s1 hg hB) rfl
theorem BT.s3(E:BT w (x0::x1::x2::(b,e,l)::L))(hg:w.grownBy w' (some b))(hB:Av w' b e l'):BT w' (x0::x1::x2::(b,e,l')::L):=E.up hg BI (E.tl.s2 hg hB) rfl
theorem BT.s4(E:BT w (x0::x1::x2::x3::(b,e,l)::L))(hg:w.grownBy w' (some b))(hB:Av w' b e l'):BT w' (x0::x1::x2::x3::(b,e,l')::L):=E.up hg BI (E.tl.s3 hg hB) rfl
theorem BT.s5(E:BT w (x0::x1::x2::x3::x4::(b,e,l)::L))(hg:w.grownBy w' (some b))(hB:Av w' b e l'):BT w' (x0::x1::x2::x3::x4::(b,e,l')::L):=E.up hg BI (E.tl.s4 hg hB) rfl
theorem BT.s6(E:BT w (x0::x1::x2::x3::x4::x5::(b,e,l)::L))(hg:w.grownBy w' (some b))(hB:Av w' b e l'):BT w' (x0::x1::x2::x3::x4::x5::(b,e,l')::L):=E.up hg BI (E.tl.s5 hg hB) rfl
theorem BT.s7(E:BT w (x0::x1::x2::x3::x4::x5::x6::(b,e,l)::L))(hg:w.grownBy w' (some b))(hB:Av w' b e l'):BT w' (x0::x1::x2::x3::x4::x5::x6::(b,e,l')::L):=E.up hg BI (E.tl.s6 hg hB) rfl
theorem BT.s8(E:BT w (x0::x1::x2::x3::x4::x5::x6::x7::(b,e,l)::L))(hg:w.grownBy w' (some b))(hB:Av w' b e l'):BT w' (x0::x1::x2::x3::x4::x5::x6::x7::(b,e,l')::L):=E.up hg BI (E.tl.s7 hg hB) rfl
theorem BT.s9(E:BT w (x0::x1::x2::x3::x4::x5::x6::x7::x8::(b,e,l)::L))(hg:w.grownBy w' (some b))(hB:Av w' b e l'):BT w' (x0::x1::x2::x3::x4::x5::x6::x7::x8::(b,e,l')::L):=E.up hg BI (E.tl.s8 hg hB) rfl
theorem BT.bo(E:BT w (x0::x1::x2::x3::x4::x5::x6::x7::x8::x9::(b,e,l)::L))(hg:w.grownBy w' (some b))(hB:Av w' b e l'):BT w' (x0::x1::x2::x3::x4::x5::x6::x7::x8::x9::(b,e,l')::L):=E.up hg BI (E.tl.s9 hg hB) rfl
theorem BT.bu(E:BT w (x0::x1::x2::x3::x4::x5::x6::x7::x8::x9::x10::(b,e,l)::L))(hg:w.grownBy w' (some b))(hB:Av w' b e l'):BT w' (x0::x1::x2::x3::x4::x5::x6::x7::x8::x9::x10::(b,e,l')::L):=E.up hg BI (E.tl.bo hg hB) rfl
theorem BT.b0(E:BT w (x0::x1::x2::x3::x4::x5::x6::x7::x8::x9::x10::x11::(b,e,l)::L))(hg:w.grownBy w' (some b))(hB:Av w' b e l'):BT w' (x0::x1::x2::x3::x4::x5::x6::x7::x8::x9::x10::x11::(b,e,l')::L):=E.up hg BI (E.tl.bu hg hB) rfl
theorem BT.r0(E:BT w ((b,e,l)::L))(hB:Av w b e l'):BT w ((b,e,l')::L):=⟨E.1,hB,E.2.2⟩
theorem BT.r1(E:BT w (x0::(b,e,l)::L))(hB:Av w b e l'):BT w (x0::(b,e,l')::L):=⟨E.1,E.2.1,(E.tl.r0 hB).2⟩
theorem BT.r2(E:BT w (x0::x1::(b,e,l)::L))(hB:Av w b e l'):BT w (x0::x1::(b,e,l')::L):=⟨E.1,E.2.1,(E.tl.r1 hB).2⟩
theorem BT.r3(E:BT w (x0::x1::x2::(b,e,l)::L))(hB:Av w b e l'):BT w (x0::x1::x2::(b,e,l')::L):=⟨E.1,E.2.1,(E.tl.r2 hB).2⟩
theorem BT.r4(E:BT w (x0::x1::x2::x3::(b,e,l)::L))(hB:Av w b e l'):BT w (x0::x1::x2::x3::(b,e,l')::L):=⟨E.1,E.2.1,(E.tl.r3 hB).2⟩
theorem BT.r5(E:BT w (x0::x1::x2::x3::x4::(b,e,l)::L))(hB:Av w b e l'):BT w (x0::x1::x2::x3::x4::(b,e,l')::L):=⟨E.1,E.2.1,(E.tl.r4 hB).2⟩
theorem BT.E(E:BT w ((b,e,l)::L)):Av w b e l:=E.2.1
theorem BT.Q(E:BT w (x0::(b,e,l)::L)):Av w b e l:=E.tl.E
theorem BT.g2(E:BT w (x0::x1::(b,e,l)::L)):Av w b e l:=E.tl.Q
theorem BT.g3(E:BT w (x0::x1::x2::(b,e,l)::L)):Av w b e l:=E.tl.g2
theorem BT.g4(E:BT w (x0::x1::x2::x3::(b,e,l)::L)):Av w b e l:=E.tl.g3
theorem BT.g5(E:BT w (x0::x1::x2::x3::x4::(b,e,l)::L)):Av w b e l:=E.tl.g4
theorem BT.g6(E:BT w (x0::x1::x2::x3::x4::x5::(b,e,l)::L)):Av w b e l:=E.tl.g5
theorem BT.g7(E:BT w (x0::x1::x2::x3::x4::x5::x6::(b,e,l)::L)):Av w b e l:=E.tl.g6
theorem BT.g8(E:BT w (x0::x1::x2::x3::x4::x5::x6::x7::(b,e,l)::L)):Av w b e l:=E.tl.g7
theorem BT.g9(E:BT w (x0::x1::x2::x3::x4::x5::x6::x7::x8::(b,e,l)::L)):Av w b e l:=E.tl.g8
theorem BT.a7(E:BT w (x0::x1::x2::x3::x4::x5::x6::x7::x8::x9::(b,e,l)::L)):Av w b e l:=E.tl.g9
theorem BT.a5(E:BT w (x0::x1::x2::x3::x4::x5::x6::x7::x8::x9::x10::(b,e,l)::L)):Av w b e l:=E.tl.a7
theorem BT.a8(E:BT w (x0::x1::x2::x3::x4::x5::x6::x7::x8::x9::x10::x11::(b,e,l)::L)):Av w b e l:=E.tl.a5
def QG{α:Type}:List Bool→List α→List α
 | true::m,x::L=>x::QG m L
 | false::m,_::L=>QG m L
 | _,_=>[]
theorem Bq{p:Prop}(h:p:=by simp [QG]):p:=h
theorem SG{α:Type}:∀ (m:List Bool) (L:List α),(QG m L).Sublist L
 | [],L=>List.nil_sublist L
 | true::m,[]=>List.Sublist.slnil
 | false::m,[]=>List.Sublist.slnil
 | true::m,x::L=>(SG m L).cons_cons x
 | false::m,x::L=>(SG m L).cons x
theorem sT{w:Ad}:∀ {L L':List (Nat×Aw×List Ak)},Mp w L→L'.Sublist L→Mp w L':=fun {L L'} h hs=>by
 induction hs with
 | slnil=>trivial
 | cons x hs ih=>obtain ⟨b,e,l⟩:=x;exact ih h.2
 | cons_cons x hs ih=>obtain ⟨b,e,l⟩:=x;exact ⟨h.1,ih h.2⟩
theorem BT.sel(E:BT w L)(m:List Bool):BT w (QG m L):=⟨E.1.sublist ((SG m L).map _),sT E.2 (SG m L)⟩
theorem GP{L0:List (Nat×Aw×List Ak)}(hn:(L0.map Prod.fst).Nodup)(hA:Mp w L)(h:L.map Prod.fst=L0.map Prod.fst):BT w L:=⟨h▸hn,hA⟩
theorem BT.W(E:BT w L){b b':Nat}{e e':Aw}{l l':List Ak}(i j:Nat)(hi:L[i]? = some (b,e,l))(hj:L[j]? = some (b',e',l'))(ac:Ap i j=false):b≠b':=fun q=>by
 have h:=E.1;have h1:(L.map Prod.fst)[i]? = some b:=by rw [List.getElem?_map,hi];rfl
 have h2:(L.map Prod.fst)[j]? = some b':=by rw [List.getElem?_map,hj];rfl
 obtain ⟨ab,e1⟩:=Lz.1 h1;obtain ⟨aa,e2⟩:=Lz.1 h2;have hp:=List.pairwise_iff_getElem.1 h;rcases Nat.lt_trichotomy i j with c|c|c;exact hp i j ab aa c (e1.trans (q.trans e2.symm));subst c;simp at ac;exact hp j i aa ab c (e2.trans (q.symm.trans e1.symm))
end
section
variable {P:BH} {n:Nat} {σ:List Ce} {c:Prop} {wb:Ad} {ty:Aw} {v:Ak}
end
end Go.Rk
namespace Go.Rk
open Go.Proofs
open Go
@[reducible] noncomputable def Aj:BH:=Tryz.prog
theorem CI:Aj.follows .mixedOrders=true:=Ai
theorem uM:Bt Aj 7=true:=Ai
theorem Adc:Bt Aj 8=true:=Ai
theorem sH:Bt Aj 9=true:=Ai
theorem xJ:Bt Aj 10=true:=Ai
theorem Abv:Bt Aj 15=true:=Ai
theorem Adr:Bt Aj 16=true:=Ai
theorem YX:Bt Aj 18=true:=Ai
theorem bI:Bt Aj 19=true:=Ai
theorem aH:Bt Aj 20=true:=Ai
theorem jO:Bt Aj 21=true:=Ai
theorem zD:Bt Aj 22=true:=Ai
theorem mE:Bt Aj 23=true:=Ai
theorem Abc:Bt Aj 24=true:=Ai
theorem Adt:Bt Aj 25=true:=Ai
theorem Acp:Bt Aj 26=true:=Ai
theorem Aec:Bt Aj 27=true:=Ai
theorem Aay:Bt Aj 28=true:=Ai
theorem Acu:Bt Aj 29=true:=Ai
theorem Abw:Bt Aj 30=true:=Ai
theorem Acz:Bt Aj 31=true:=Ai
theorem Adi:Bt Aj 32=true:=Ai
theorem jI:Bt Aj 35=true:=Ai
theorem Z1:Bt Aj 36=true:=Ai
theorem eG:Bt Aj 37=true:=Ai
theorem gQ:Bt Aj 38=true:=Ai
theorem Ade:Bt Aj 39=true:=Ai
theorem Acv:Bt Aj 40=true:=Ai
theorem V4:Bt Aj 41=true:=Ai
theorem Adw:Bt Aj 42=true:=Ai
theorem Abe:Bt Aj 43=true:=Ai
theorem Adu:Bt Aj 44=true:=Ai
theorem U1:Bt Aj 45=true:=Ai
theorem iR:Bt Aj 47=true:=Ai
theorem Yf:Bt Aj 48=true:=Ai
theorem rB:Bt Aj 49=true:=Ai
theorem Wp:Bt Aj 50=true:=Ai
theorem Xx:Bt Aj 51=true:=Ai
theorem GM:Bt Aj 52=true:=Ai
theorem YI:Bt Aj 53=true:=Ai
theorem zN:Bt Aj 54=true:=Ai
theorem Abi:Bt Aj 55=true:=Ai
theorem Abj:Bt Aj 56=true:=Ai
theorem S9:Bt Aj 57=true:=Ai
theorem tM:Bt Aj 58=true:=Ai
theorem pV:Bt Aj 59=true:=Ai
theorem UH:Bt Aj 60=true:=Ai
theorem ZJ:Bt Aj 61=true:=Ai
theorem PL:Bt Aj 62=true:=Ai
theorem yG:Bt Aj 63=true:=Ai
theorem Adl:Bt Aj 64=true:=Ai
theorem rV:Bt Aj 65=true:=Ai
theorem fV:Bt Aj 66=true:=Ai
theorem Uk:Bt Aj 67=true:=Ai
theorem Yc:Bt Aj 68=true:=Ai
theorem Zp:Bt Aj 69=true:=Ai
theorem Um:Bt Aj 70=true:=Ai
theorem Se:Bt Aj 71=true:=Ai
theorem PW:Bt Aj 72=true:=Ai
theorem YQ:Bt Aj 73=true:=Ai
theorem lF:Bt Aj 74=true:=Ai
theorem Xj:Bt Aj 75=true:=Ai
theorem Aca:Bt Aj 76=true:=Ai
theorem oY:Bt Aj 77=true:=Ai
theorem Nc:Bt Aj 78=true:=Ai
theorem Acy:Bt Aj 79=true:=Ai
theorem Acw:Bt Aj 80=true:=Ai
theorem dR:Bt Aj 81=true:=Ai
theorem Acb:Bt Aj 82=true:=Ai
theorem Abd:Bt Aj 83=true:=Ai
theorem Abr:Bt Aj 84=true:=Ai
theorem Acg:Bt Aj 85=true:=Ai
theorem Aed:Bt Aj 86=true:=Ai
theorem Acm:Bt Aj 87=true:=Ai
theorem Acn:Bt Aj 88=true:=Ai
theorem Abb:Bt Aj 89=true:=Ai
theorem Abk:Bt Aj 90=true:=Ai
theorem Adf:Bt Aj 91=true:=Ai
theorem WX:Bt Aj 92=true:=Ai
theorem dN:Bt Aj 93=true:=Ai
theorem R5:Bt Aj 94=true:=Ai
theorem UG:Bt Aj 95=true:=Ai
theorem Ach:Bt Aj 96=true:=Ai
theorem uQ:Bt Aj 97=true:=Ai
theorem Aal:Bt Aj 98=true:=Ai
theorem Uu:Bt Aj 99=true:=Ai
theorem Abf:Bt Aj 100=true:=Ai
theorem Abt:Bt Aj 101=true:=Ai
theorem Adv:Bt Aj 102=true:=Ai
theorem Aea:Bt Aj 103=true:=Ai
theorem Adz:Bt Aj 104=true:=Ai
theorem pZ:Bt Aj 105=true:=Ai
theorem vB:Bt Aj 106=true:=Ai
theorem Adx:Bt Aj 107=true:=Ai
theorem Aaz:Bt Aj 108=true:=Ai
theorem Adb:Bt Aj 109=true:=Ai
theorem qZ:Bt Aj 110=true:=Ai
theorem Acd:Bt Aj 111=true:=Ai
theorem RI:Bt Aj 112=true:=Ai
theorem Aci:Bt Aj 113=true:=Ai
theorem NL:Bt Aj 114=true:=Ai
theorem lX:Bt Aj 115=true:=Ai
theorem nI:Bt Aj 116=true:=Ai
theorem Acx:Bt Aj 117=true:=Ai
theorem WZ:Bt Aj 118=true:=Ai
theorem Jf:Bt Aj 119=true:=Ai
theorem R1:Bt Aj 120=true:=Ai
theorem LK:Bt Aj 121=true:=Ai
theorem KC:Bt Aj 122=true:=Ai
theorem tU:Bt Aj 123=true:=Ai
theorem Aao:Bt Aj 124=true:=Ai
theorem iJ:Bt Aj 125=true:=Ai
theorem Ada:Bt Aj 126=true:=Ai
theorem Abq:Bt Aj 127=true:=Ai
theorem Acr:Bt Aj 128=true:=Ai
theorem Abn:Bt Aj 129=true:=Ai
theorem xS:Bt Aj 130=true:=Ai
theorem gM:Bt Aj 131=true:=Ai
theorem Abh:Bt Aj 132=true:=Ai
theorem Aco:Bt Aj 133=true:=Ai
theorem nK:Bt Aj 134=true:=Ai
theorem Vl:Bt Aj 135=true:=Ai
theorem Abs:Bt Aj 136=true:=Ai
theorem Ack:Bt Aj 137=true:=Ai
theorem uG:Bt Aj 138=true:=Ai
theorem TS:Bt Aj 139=true:=Ai
theorem Ads:Bt Aj 140=true:=Ai
theorem Abp:Bt Aj 141=true:=Ai
theorem Abx:Bt Aj 142=true:=Ai
theorem Adg:Bt Aj 143=true:=Ai
theorem Aba:Bt Aj 144=true:=Ai
theorem Adm:Bt Aj 145=true:=Ai
theorem Ws:Bt Aj 146=true:=Ai
theorem Adj:Bt Aj 147=true:=Ai
theorem fZ:Bt Aj 148=true:=Ai
theorem Abz:Bt Aj 149=true:=Ai
theorem yS:Bt Aj 150=true:=Ai
theorem Acf:Bt Aj 151=true:=Ai
theorem Abl:Bt Aj 152=true:=Ai
theorem Adn:Bt Aj 153=true:=Ai
theorem Xu:Bt Aj 154=true:=Ai
theorem VE:Bt Aj 155=true:=Ai
theorem Aaw:Bt Aj 156=true:=Ai
theorem X6:Bt Aj 157=true:=Ai
theorem tW:Bt Aj 158=true:=Ai
theorem bL:Bt Aj 159=true:=Ai
theorem sM:Bt Aj 160=true:=Ai
theorem Ace:Bt Aj 161=true:=Ai
theorem oQ:Bt Aj 162=true:=Ai
theorem Adq:Bt Aj 163=true:=Ai
theorem Ado:Bt Aj 164=true:=Ai
theorem Acl:Bt Aj 165=true:=Ai
theorem IU:Ir Aj 3=some 1:=Ai
theorem Lp:Gc Aj 3=some (.int .i64 0):=Ai
theorem Cd:G4 Aj 3=true:=Ai
theorem Wed:Gc Aj 4=some (.bool false):=Ai
theorem cY:Aj.underlying 4=some .bool:=Ai
theorem DU:G4 Aj 9=true:=Ai
theorem JR:Ni Aj 9=true:=Ai
theorem Yn:Aj.isIface 20=true:=Ai
theorem Mm:Ir Aj 22=some 1:=Ai
theorem dJ:Gc Aj 22=some (.slice none 0 0):=Ai
theorem Bj:G4 Aj 22=true:=Ai
theorem AB:FQ Aj 22=some (26,9,104):=Ai
theorem E0:Ir Aj 24=some 2:=Ai
theorem Fw:Gc Aj 24=some (.agg #[.int .i64 0,.string ⟨#[]⟩]):=Ai
theorem Ci:KW Aj 24=some 2:=Ai
theorem Ie:Qt Aj 24=some [0,1]:=Ai
theorem TN:EB Aj 24 0=some 0:=Ai
theorem Ui:EB Aj 24 1=some 1:=Ai
theorem HW:Lj Aj 24=some [(0,1),(1,1)]:=Ai
theorem FH:Ir Aj 26=some 9:=Ai
theorem Ck:Gc Aj 26=some (.agg #[.int .i64 0,.string ⟨#[]⟩,.int .i64 0,.int .i64 0,.slice none 0 0,.int .i64 0,.string ⟨#[]⟩,.int .i64 0,.int .i64 0]):=Ai
theorem A3:KW Aj 26=some 9:=Ai
theorem FK:EB Aj 26 0=some 0:=Ai
theorem E6:EB Aj 26 1=some 1:=Ai
theorem Lf:EB Aj 26 2=some 2:=Ai
theorem HY:EB Aj 26 3=some 3:=Ai
theorem AW:EB Aj 26 4=some 4:=Ai
theorem Fl:EB Aj 26 5=some 5:=Ai
theorem O7:EB Aj 26 6=some 7:=Ai
theorem Vf:EB Aj 26 7=some 8:=Ai
theorem Js:Lj Aj 26=some [(0,1),(1,1),(2,1),(3,1),(4,1),(5,2),(7,1),(8,1)]:=Ai
theorem YO:G4 Aj 28=true:=Ai
theorem Ro:Ir Aj 34=some 1:=Ai
theorem YB:Gc Aj 34=some (.int .i64 0):=Ai
theorem Nu:G4 Aj 34=true:=Ai
theorem QW:Ir Aj 43=some 1:=Ai
theorem Mi:G4 Aj 43=true:=Ai
theorem Lq:FQ Aj 43=some (83,6,64):=Ai
theorem O5:Ir Aj 44=some 1:=Ai
theorem Nn:G4 Aj 44=true:=Ai
theorem GR:FQ Aj 44=some (3,1,8):=Ai
theorem aV:Ir Aj 46=some 17:=Ai
theorem Z2:Gc Aj 46=some (.agg #[.int .i64 0,.string ⟨#[]⟩,.int .i64 0,.int .i64 0,.slice none 0 0,.int .i64 0,.string ⟨#[]⟩,.int .i64 0,.int .i64 0,.slice none 0 0,.int .i64 0,.int .i64 0,.slice none 0 0,.int .i64 0,.string ⟨#[]⟩,.int .i64 0,.int .i64 0]):=Ai
theorem Yx:KW Aj 46=some 17:=Ai
theorem Ou:EB Aj 46 0=some 0:=Ai
theorem LA:EB Aj 46 1=some 9:=Ai
theorem Vm:EB Aj 46 2=some 10:=Ai
theorem RP:EB Aj 46 3=some 11:=Ai
theorem P9:EB Aj 46 4=some 12:=Ai
theorem fB:EB Aj 46 5=some 13:=Ai
theorem SV:EB Aj 46 6=some 15:=Ai
theorem Rb:EB Aj 46 7=some 16:=Ai
theorem ZK:Gc Aj 62=some (.agg #[.int .i64 0,.int .i64 0]):=Ai
theorem zV:Qd Aj 62=true:=Ai
theorem Yk:EB Aj 62 0=some 0:=Ai
theorem ZW:EB Aj 62 1=some 1:=Ai
theorem Xh:Lj Aj 62=some [(0,1),(1,1)]:=Ai
theorem R6:G4 Aj 65=true:=Ai
theorem U6:G4 Aj 66=true:=Ai
theorem XK:G4 Aj 67=true:=Ai
theorem R0:G4 Aj 68=true:=Ai
theorem Qv:Ir Aj 69=some 1:=Ai
theorem J4:G4 Aj 69=true:=Ai
theorem J0:FQ Aj 69=some (86,1,24):=Ai
theorem NZ:Ir Aj 70=some 1:=Ai
theorem M8:G4 Aj 70=true:=Ai
theorem IR:FQ Aj 70=some (24,2,24):=Ai
theorem bZ:Gc Aj 72=some (.agg #[.int .i64 0,.string ⟨#[]⟩,.int .i64 0,.int .i64 0,.slice none 0 0,.int .i64 0,.string ⟨#[]⟩,.int .i64 0,.int .i64 0,.map none,.map none,.map none,.map none,.slice none 0 0,.slice none 0 0,.slice none 0 0]):=Ai
theorem aB:EB Aj 72 0=some 0:=Ai
theorem SI:EB Aj 72 1=some 9:=Ai
theorem UK:EB Aj 72 2=some 10:=Ai
theorem YE:EB Aj 72 3=some 11:=Ai
theorem RW:EB Aj 72 4=some 12:=Ai
theorem Ju:EB Aj 72 5=some 13:=Ai
theorem ST:EB Aj 72 6=some 14:=Ai
theorem OT:EB Aj 72 7=some 15:=Ai
theorem YV:Lj Aj 72=some [(0,9),(9,1),(10,1),(11,1),(12,1),(13,1),(14,1),(15,1)]:=Ai
theorem SN:Ir Aj 74=some 4:=Ai
theorem O9:Gc Aj 74=some (.agg #[.int .i64 0,.slice none 0 0,.int .i64 0,.string ⟨#[]⟩]):=Ai
theorem XO:EB Aj 74 0=some 0:=Ai
theorem TP:EB Aj 74 1=some 1:=Ai
theorem TT:EB Aj 74 2=some 2:=Ai
theorem UO:Lj Aj 74=some [(0,1),(1,1),(2,2)]:=Ai
theorem VG:G4 Aj 77=true:=Ai
theorem Ta:Gc Aj 83=some (.agg #[.string ⟨#[]⟩,.int .i64 0,.string ⟨#[]⟩,.int .i64 0,.int .i64 0,.int .i64 0]):=Ai
theorem dO:KW Aj 83=some 6:=Ai
theorem Yo:EB Aj 83 0=some 0:=Ai
theorem dU:EB Aj 83 1=some 1:=Ai
theorem bH:EB Aj 83 2=some 3:=Ai
theorem aU:EB Aj 83 3=some 4:=Ai
theorem VJ:EB Aj 83 4=some 5:=Ai
theorem dA:Lj Aj 83=some [(0,1),(1,2),(3,1),(4,1),(5,1)]:=Ai
theorem eF:Ir Aj 86=some 1:=Ai
theorem Ud:Gc Aj 86=some (.slice none 0 0):=Ai
theorem Pd:G4 Aj 86=true:=Ai
theorem NS:FQ Aj 86=some (88,5,56):=Ai
theorem TR:Gc Aj 88=some (.agg #[.string ⟨#[]⟩,.int .i64 0,.string ⟨#[]⟩,.int .i64 0,.int .i64 0]):=Ai
theorem eK:KW Aj 88=some 5:=Ai
theorem XA:EB Aj 88 0=some 0:=Ai
theorem WN:EB Aj 88 1=some 1:=Ai
theorem bV:EB Aj 88 2=some 3:=Ai
theorem aO:EB Aj 88 3=some 4:=Ai
theorem bB:Lj Aj 88=some [(0,1),(1,2),(3,1),(4,1)]:=Ai
theorem XL:Gc Aj 95=some (.nilFunc):=Ai
theorem Sa:G4 Aj 95=true:=Ai
theorem dV:KW Aj 100=some 13:=Ai
theorem gK:Tb Aj 100=some 13:=Ai
theorem Ps:FQ Aj 105=some (109,3,40):=Ai
theorem Py:Gc Aj 109=some (.agg #[.string ⟨#[]⟩,.int .i64 0,.string ⟨#[]⟩]):=Ai
theorem V1:EB Aj 109 0=some 0:=Ai
theorem UA:EB Aj 109 1=some 1:=Ai
theorem VY:Lj Aj 109=some [(0,1),(1,2)]:=Ai
theorem Tr:Ir Aj 111=some 1:=Ai
theorem O1:G4 Aj 111=true:=Ai
theorem Mg:FQ Aj 111=some (115,3,32):=Ai
theorem Od:Gc Aj 115=some (.agg #[.int .i64 0,.string ⟨#[]⟩,.int .i64 0]):=Ai
theorem Zs:KW Aj 115=some 3:=Ai
theorem Sf:Lj Aj 115=some [(0,1),(1,1),(2,1)]:=Ai
theorem Ts:FQ Aj 116=some (95,1,8):=Ai
theorem MX:EB Aj 125 0=some 0:=Ai
theorem H6:EB Aj 125 1=some 1:=Ai
theorem PS:EB Aj 125 2=some 2:=Ai
theorem Uz:EB Aj 125 3=some 3:=Ai
theorem YC:Aj.isIface 134=true:=Ai
theorem Yr:KW Aj 137=some 27:=Ai
theorem kD:Tb Aj 137=some 27:=Ai
end Go.Rk
namespace Go.Rk
open Go.Proofs
open Go Go.RowKit
def wd(ds:List Deferred)(a:Act):Act:={ a with defers:=ds }
theorem NN(ds:List Deferred)(a:Act)(d:Option Tmp)(v:Ak):(wd ds a).put d v=wd ds (a.put d v):=by cases d <;> rfl
theorem bA(a:Act):wd a.defers (wd [] a)=a:=by cases a;rfl
theorem Rx{a:Act}(h:a.defers=[])(ds:List Deferred):wd [] (wd ds a)=a:=by cases a;cases h;rfl
theorem Cx.a0{n:Nat}{σ:List Ce}{a:Act}(h:Cx n σ a)(ds:List Deferred):wd [] (wd ds a)=a:=Rx h.2.1 ds
theorem MN(a:Act)(d:Option Tmp)(v:Ak):(a.put d v).defers=a.defers:=by cases d <;> rfl
abbrev ET:=List Deferred→Act→Ad→Prop
def II(N:ET)(a:Act)(w:Ad):Prop:=N a.defers (wd [] a) w
theorem F7.wd{P:BH}{Z:List Bd→ET}{ops:Array Oper}{cl:Nat→Nat}{lv:Nat→Bool}{W0:Ad}{N:ET}(ds:List Deferred):∀ (L:List Nat) (a:Act) (w:Ad),a.defers=[]→
  F7 P (fun ch a w=>Z ch ds a w) ops cl lv W0 (N ds) L a w→F7 P (fun ch=>II (Z ch)) ops cl lv W0 (II N) L (wd ds a) w
 | [],a,w,h0,h=>by
  show N ds (Go.Rk.wd [] (Go.Rk.wd ds a)) w;rw [Rx h0];exact h
 | i::rest,a,w,h0,⟨o,ho,hb⟩=>by
  refine ⟨o,ho,?_⟩;by_cases hc:cl i=0∨cl i=3;rw [CP hc] at hb ⊢;obtain ⟨v,h1,h2,h3⟩:=hb;refine ⟨v,h1,h2,?_⟩;rw [NN];exact F7.wd ds rest _ _ ((MN a o.dst v).trans h0) h3;rw [CJ hc] at hb ⊢;by_cases hw:Dt o (yielded ops a.tmps)=true;rw [CP hw] at hb;refine (CP (show Dt o (yielded ops (Go.Rk.wd ds a).tmps)=true from hw)).mpr ?_;refine Lr.turn (a:=a) (b:=Go.Rk.wd ds a) U (fun ch w' hz=>?_) (fun v w' _ hk=>?_) hb;show Z ch ds (Go.Rk.wd [] (Go.Rk.wd ds a)) w';rw [Rx h0];exact hz;rw [NN];exact F7.wd ds rest _ _ ((MN a o.dst v).trans h0) hk;rw [CJ hw] at hb;refine (CJ (show ¬ Dt o (yielded ops (Go.Rk.wd ds a).tmps)=true from hw)).mpr ?_;rw [NN];exact F7.wd ds rest _ _ ((MN a o.dst undef).trans h0) hb
theorem Gu.wd{P:BH}{Z:List Bd→ET}{ops:Array Oper}{cl:Nat→Nat}{wt:Nat→Nat→Bool}{row:H0}{N:ET}(ds:List Deferred):∀ (m:Nat) (L:List Nat) (a:Act) (w:Ad),a.defers=[]→
  Gu P (fun ch a w=>Z ch ds a w) ops cl wt row (N ds) m L a w→Gu P (fun ch=>II (Z ch)) ops cl wt row (II N) m L (wd ds a) w
 | 0,L,a,w,h0,h=>⟨h.1,by
  show N ds (Go.Rk.wd [] (Go.Rk.wd ds a)) w;rw [Rx h0];exact h.2⟩
 | m+1,L,a,w,h0,.inl ⟨r,hr,aa,hc,o,ho,v,h1,h2,h3⟩=>.inl ⟨r,hr,aa,hc,o,ho,v,h1,h2,by
  rw [NN];exact Gu.wd ds m _ _ _ ((MN a o.dst v).trans h0) h3⟩
 | m+1,L,a,w,h0,.inr ⟨hno,hall⟩=>.inr ⟨hno,fun j hj aa=>by
  obtain ⟨o,ho,hb⟩:=hall j hj aa;refine ⟨o,ho,?_⟩;by_cases hw:Dt o (yielded ops a.tmps)=true;rw [CP hw] at hb;refine (CP (show Dt o (yielded ops (Go.Rk.wd ds a).tmps)=true from hw)).mpr ?_;refine MB.turn (a:=a) (b:=Go.Rk.wd ds a) U (fun ch w' hz=>?_) (fun v w' _ hk=>?_) hb;show Z ch ds (Go.Rk.wd [] (Go.Rk.wd ds a)) w';rw [Rx h0];exact hz;rw [NN];exact Gu.wd ds m _ _ _ ((MN a o.dst v).trans h0) hk;rw [CJ hw] at hb;refine (CJ (show ¬ Dt o (yielded ops (Go.Rk.wd ds a).tmps)=true from hw)).mpr ?_;rw [NN];exact Gu.wd ds m _ _ _ ((MN a o.dst undef).trans h0) hb⟩
def OE(N:ET)(X:List (Nat×ET))(T:ET)(Z:List Bd→ET):Exit→Act→Ad→Prop
 | .normal,a,w=>II N a w
 | .ret,a,w=>II T a w
 | .exit id,a,w=>match X.lookup id with|some k=>II k a w|none=>False
 | .panic ch,a,w=>II (Z ch) a w
 | _,_,_=>False
def Gh(P:BH)(ρ:Option Nat)(n:Nat)(ds:List Deferred)(c:Code)(N:ET)(X:List (Nat×ET))(T:ET)(Z:List Bd→ET)(σ:List Ce)(w:Ad):Prop :=
 ∀ a,Cx n σ a→c.wpIn (Kb ρ) 0 P (OE N X T Z) (wd ds a) w
section
variable {P:BH} {ρ:Option Nat} {n:Nat} {ds:List Deferred} {N T:ET} {X:List (Nat×ET)} {Z:List Bd→ET} {σ:List Ce} {w:Ad}
theorem NH{c:Code}(τ:List Ce)(hs:Hs τ σ)(h:Gh P ρ n ds c N X T Z τ w):Gh P ρ n ds c N X T Z σ w:=fun a ha=>h a (ha.sub hs)
theorem DT{x y:Code}(h:∀ H':ET,(∀ ds τ u,Gh P ρ n ds y N X T Z τ u→∀ a,Cx n τ a→H' ds a u)→Gh P ρ n ds x H' X T Z σ w):Gh P ρ n ds (.seq x y) N X T Z σ w:=fun a ha=>by
 refine wpIn_seq (wpIn_mono (h (fun ds a w=>y.wpIn (Kb ρ) 0 P (OE N X T Z) (wd ds a) w) (fun ds τ u hy a ha=>hy a ha) a ha) (fun e a w q=>?_))
 cases e with
 | normal =>
  have q:y.wpIn (Kb ρ) 0 P (OE N X T Z) (wd a.defers (wd [] a)) w:=q;rw [bA] at q;exact q
 | _=>exact q
theorem Nr(h:∀ a,Cx n σ a→N ds a w):Gh P ρ n ds .skip N X T Z σ w:=fun a ha=>wpIn_skip (show N ds (wd [] (wd ds a)) w by rw [ha.a0];exact h a ha)
theorem LO(h:∀ a,Cx n σ a→T ds a w):Gh P ρ n ds .ret N X T Z σ w:=fun a ha=>wpIn_ret (show T ds (wd [] (wd ds a)) w by rw [ha.a0];exact h a ha)
theorem W5{id:Nat}{k:ET}(hk:X.lookup id=some k)(h:∀ a,Cx n σ a→k ds a w):Gh P ρ n ds (.exit id) N X T Z σ w:=fun a ha=>wpIn_exit (by
 show match X.lookup id with|some k=>II k (wd ds a) w|none=>False
 rw [hk];show k ds (wd [] (wd ds a)) w;rw [ha.a0];exact h a ha)
theorem LJ{id:Nat}{c:Code}(h:Gh P ρ n ds c N ((id,N)::X) T Z σ w):Gh P ρ n ds (.block id c) N X T Z σ w:=fun a ha=>by
 refine wpIn_block (wpIn_mono (h a ha) (fun e a w q=>?_))
 cases e with
 | exit id' =>
  simp only [Exit.inBlock];by_cases he:id'=id;subst he;rw [CP rfl];simpa [OE,List.lookup] using q;rw [CJ he];simp only [OE] at q ⊢;rw [List.lookup_cons] at q;have:(id' == id)=false:=by simpa using he
  rw [this] at q;exact q
 | _=>exact q
theorem MK{x:A7}{b:Bool}{p q:Code}(hx:Bz n σ True x (.bool b))(h1:b=true→Gh P ρ n ds p N X T Z σ w)(h2:b=false→Gh P ρ n ds q N X T Z σ w):Gh P ρ n ds (.cond x p q) N X T Z σ w:=fun a ha =>
 wpIn_cond_split (show (wd ds a).eval x = .bool b from hx a ha BN) (fun h=>h1 h a ha) (fun h=>h2 h a ha)
theorem Eg{id:Nat}{l:List Oper}(cl:List Nat)(h:Bv P (fun ch a w=>Z ch ds a w) l cl [] w n (N ds) 0 l σ w):Gh P ρ n ds (.region id l.toArray false) N X T Z σ w:=fun a ha=>by
 have h1:=h (fun j o ho=>by simpa using ho) a ha;have e:Ji []=fun _=>true:=by funext i;simp [Ji]
 rw [e] at h1;have h2:=F7.wd (Z:=Z) (N:=N) ds _ a w ha.2.1 h1;rw [show List.range' 0 l.length=Cr l.toArray.size by rw [List.range_eq_range'];simp] at h2;exact dZ (Z:=fun ch=>II (Z ch)) (fun ch a w h=>h) h2
theorem lR{id:Nat}{l:List Oper}(row:H0)(cl:List Nat)(ms:List Nat)(hm:P.follows .mixedOrders=true)(aa:Qc l cl ms=true)(L:List Nat)(hL:Cr l.length=L)
 (ab:∀ ch ds (a:Act) d v w,Z ch ds (a.put d v) w→Z ch ds a w)
 (h:G9 P (fun ch a w=>Z ch ds a w) l cl ms row n (N ds) l.length L σ w.drew):Gh P ρ n ds (.region id l.toArray true) N X T Z σ w:=fun a ha=>by
 have h1:=h a ha;subst hL;have h2:=Gu.wd (Z:=Z) (N:=N) ds _ _ a w.drew ha.2.1 h1;have h3:Gu P (fun ch=>II (Z ch)) l.toArray (Bw cl) (Iw ms) row (II N) l.toArray.size (Cr l.toArray.size) (wd ds a) w.drew:=by simpa using h2
 refine SH (Z:=fun ch=>II (Z ch)) (fun ch a d v w _ hz=>?_) (Tp aa) (fun ch a w h=>h) hm h3;have hz:Z ch (a.put d v).defers (wd [] (a.put d v)) w:=hz;rw [MN,← NN] at hz;exact ab _ _ _ _ _ _ hz
theorem aA{c:Code}{α:Type}(I:α→Ad→Prop)(σf:α→List Ce)(df:α→List Deferred)(μ:α→Nat)(x0:α)(h0:I x0 w)(hd:df x0=ds)(hs:Hs (σf x0) σ)
 (round:∀ x w,I x w→Gh P ρ n (df x) c (fun ds' a' w'=>∃ y,df y=ds'∧Cx n (σf y) a'∧I y w'∧μ y < μ x) X T Z (σf x) w):Gh P ρ n ds (.loop c) N X T Z σ w:=fun a ha=>by
 intro b k cs ag hb hr
 have ae:∀ m x a w,μ x=m→Cx n (σf x) a→I x w→
   ∃ e a' w',OE N X T Z e a' w'∧ArrivesIn (Machine.fenced P (Kb ρ)) P (lone (b.atR (wd (df x) a) (.code c :: .inLoop c::k)) cs w) b k cs e a' w':=by
  intro m
  induction m using Nat.strongRecOn with
  | _ m ih =>
   intro x a w hm hk hI
   obtain ⟨e,a₁,w₁,hq,aa⟩:=round x w hI a hk b (.inLoop c::k) cs ag hb hr
   cases e with
   | normal =>
    obtain ⟨y,af,ad,ac,ah⟩:=hq
    obtain ⟨e₂,a₂,w₂,ai,ab⟩:=ih (μ y) (hm▸ah) y _ w₁ rfl ad ac
    rw [af,bA] at ab
    exact ⟨e₂,a₂,w₂,ai,.of_steps (StepsIn.trans aa (.one (fenced_calm hb hr rfl) stepR_inLoop)) ab⟩
   | exit id=>exact ⟨.exit id,a₁,w₁,hq,.pass (x:=.inLoop c) rfl (fun _ _=>.inl BI) aa⟩
   | goto l=>exact hq.elim
   | ret=>exact ⟨.ret,a₁,w₁,hq,.pass (x:=.inLoop c) rfl (fun _ _=>.inl BI) aa⟩
   | panic ch=>exact ⟨.panic ch,a₁,w₁,hq,.pass (x:=.inLoop c) rfl (fun _ _=>.inl BI) aa⟩
   | outgrown=>exact hq.elim
 obtain ⟨e,a',w',hq,aa⟩:=ae _ x0 a w rfl (ha.sub hs) h0;rw [hd] at aa;exact ⟨e,a',w',hq,.of_steps (.one (fenced_calm hb hr rfl) stepR_loop) aa⟩
theorem fU{c:Code}{α:Type}(I:α→Ad→Prop)(σc:List Ce)(σf:α→List Ce)(μ:α→Nat)(x0:α)(h0:I x0 w)(hs:Hs (σf x0 ++ σc) σ)
 (round:∀ x w,I x w→Gh P ρ n ds c (fun ds' a' w'=>ds'=ds∧∃ y,Cx n (σf y ++ σc) a'∧I y w'∧μ y < μ x) X T Z (σf x ++ σc) w):Gh P ρ n ds (.loop c) N X T Z σ w:=by
 refine aA I (fun x=>σf x ++ σc) (fun _=>ds) μ x0 h0 U hs fun x w h=>fun a ha=>wpIn_mono (round x w h a ha) (fun e a w q=>?_)
 cases e with
 | normal=>obtain ⟨q1,y,q2⟩:=q;exact ⟨y,q1.symm,q2⟩
 | _=>exact q
end
def Ww(G':Ak→Ad→Prop)(Rp:List Bd→Ad→Prop)(e:Ending)(w:Ad):Prop:=(∃ v,e = .returned v∧G' v w)∨(∃ ch,e = .panicked ch∧Rp ch w)
def Gj(P:BH)(f:FuncId)(args:Array Ak)(w:Ad)(G':Ak→Ad→Prop)(Rp:List Bd→Ad→Prop):Prop:=Calls P f args w (Ww G' Rp)
theorem Gj.mono{P:BH}{f:FuncId}{args:Array Ak}{w:Ad}{G' R':Ak→Ad→Prop}{Rp aa:List Bd→Ad→Prop}(h:Gj P f args w G' Rp)(hr:∀ v w',G' v w'→R' v w')(hp:∀ ch w',Rp ch w'→aa ch w'):Gj P f args w R' aa :=
 Calls.mono h fun _ _ h=>h.imp (fun ⟨v,e,k⟩=>⟨v,e,hr v _ k⟩) (fun ⟨ch,e,k⟩=>⟨ch,e,hp ch _ k⟩)
theorem Gj.ret{P:BH}{f:FuncId}{args:Array Ak}{w:Ad}{G':Ak→Ad→Prop}{Rp:List Bd→Ad→Prop}(h:Gj P f args w G' Rp)(hp:∀ ch w',¬ Rp ch w'):Bx P f args w G' :=
 Calls.mono h fun _ _ h=>h.elim id fun ⟨_,_,k⟩=>absurd k (hp _ _)
def NU(P:BH)(l:Nat)(args:Array Ak)(w:Ad)(G':Ak→Ad→Prop):Prop :=
 ∃ fn tmps asg body,(Instr.yield l args).run P w = .ok (.round l fn tmps asg body) w∧RoundIn Fence.wide 0 P l fn tmps asg body w fun e w'=>∃ v,e = .returned v∧G' v w'
theorem NU.mono{P:BH}{l:Nat}{args:Array Ak}{w:Ad}{G' R':Ak→Ad→Prop}(h:NU P l args w G')(hr:∀ v w',G' v w'→R' v w'):NU P l args w R':=by
 obtain ⟨fn,tmps,aa,body,h1,h2⟩:=h;exact ⟨fn,tmps,aa,body,h1,RoundIn.mono h2 fun _ _ ⟨v,e,k⟩=>⟨v,e,hr v _ k⟩⟩
@[reducible] def P1(l:Nat):Ak:=.func (.yield l) #[] #[]
section
variable {P:BH} {Z:List Bd→Act→Ad→Prop} {ops:List Oper} {cl:List Nat} {lv:List Bool} {W0:Ad} {n:Nat} {H':Act→Ad→Prop} {k:Nat} {rest:List Oper} {σ:List Ce} {w:Ad} {d:Nat} {op:Op} {ty:Aw} {pos:String} {after:Array Edge} {v:Ak}
theorem Mo{f:FuncId}{args:Array Ak}{G':Ak→Ad→Prop}{Rp:List Bd→Ad→Prop}(hb:(!Ap (Bw cl k) 0 && !Ap (Bw cl k) 3&&AN d n)=true)(hr:Ol P n σ True w op ty f args)(hC:Gj P f args w G' Rp)
 (hz:∀ ch w',Rp ch w'→∀ a,Cx n σ a→Z ch a w')
 (h:∀ v w',G' v w'→(Bw cl k=1→G w w')∧Bv P Z ops cl lv W0 n H' (k+1) rest ((d,True,v) :: σ) w') :
 Bv P Z ops cl lv W0 n H' k (⟨some d,op,ty,pos,after,none⟩::rest) σ w:=.mk fun hl a ha=>by
 obtain ⟨h0,h1⟩:=J8 hl;simp only [Bh,Bool.not_eq_true'] at hb;rw [Cl,CQ];refine ⟨_,h0,?_⟩;rw [CJ (fun he=>by rcases he with he|he <;> rw [he] at hb <;> simp at hb),CP QF]
 refine .inr (.inr (.inl ⟨f,args,hr _ _ _ _ a ha BN,Calls.mono hC fun e w' h'=>?_⟩));rcases h' with ⟨v,he,hv⟩|⟨ch,he,hp⟩;obtain ⟨q1,q2⟩:=h v w' hv;exact .inl ⟨v,he,fun hh=>q1 (by simpa using hh),q2 h1 _ (ha.put hb.2 (fun _=>rfl) (fun hn=>absurd BN hn))⟩;exact .inr ⟨ch,he,hz ch w' hp a ha⟩
theorem zR{x:A7}{l:Nat}{xs:List A7}{vs:List Ak}{aa:Array Aw}{G':Ak→Ad→Prop}(hb:(!Ap (Bw cl k) 0 && !Ap (Bw cl k) 3&&AN d n)=true)(hx:Bz n σ True x (P1 l))(ha:Kj n σ True xs vs)(hY:NU P l vs.toArray w G')
 (h:∀ v w',G' v w'→(Bw cl k=1→G w w')∧Bv P Z ops cl lv W0 n H' (k+1) rest ((d,True,v) :: σ) w') :
 Bv P Z ops cl lv W0 n H' k (⟨some d,.call { callee:=.value x,args:=xs.toArray,argTypes:=aa },ty,pos,after,none⟩::rest) σ w:=.mk fun hl a hk=>by
 obtain ⟨h0,h1⟩:=J8 hl;simp only [Bh,Bool.not_eq_true'] at hb;rw [Cl,CQ];refine ⟨_,h0,?_⟩;rw [CJ (fun he=>by rcases he with he|he <;> rw [he] at hb <;> simp at hb),CP QF]
 obtain ⟨fn,tmps,ab,body,hy,hR⟩:=hY;refine .inr (.inr (.inr ⟨l,fn,tmps,ab,body,?_,RoundIn.mono hR fun e w' ⟨v,he,hv⟩=>?_⟩));have h2:xs.toArray.map a.eval=vs.toArray:=by rw [HJ,ha a hk BN]
 simp only [execOp,resolve,hx a hk BN,h2,Deferred.ofValue,Sem.run_bind,Sem.run_pure,Ez,invoke];simpa using hy;obtain ⟨q1,q2⟩:=h v w' hv;exact ⟨v,he,fun hh=>q1 (by simpa using hh),q2 h1 _ (hk.put hb.2 (fun _=>rfl) (fun hn=>absurd BN hn))⟩
end
end Go.Rk
