/- Texts. Conditions: each its own. -/
import Derived.Orders
import Derived.Below
import Derived.LoopTactic
import Derived.CallsIn
import Derived.OrdersIn
import Derived.DefersIn
import Derived.RangeFuncRecord
import Derived.RangeFuncLeaves
import Derived.WalkKit
import Derived.WalkSpells
import Derived.WalkLawsBesides
import Derived.Maps.AppendAt
import Derived.Laws.StructEq
import Derived.Stop.IfaceNil
import Derived.Laws.Pointers
import Derived.Lib.Builder
import Derived.Lib.AppendStr
import Derived.Lib.UnsafeStr
import Derived.Laws.Externs
import Derived.Test.YtmpfjifhkmdbaaaGreatDoorProg
import Derived.KernelRfl
import Derived.RangeFuncOwn
set_option linter.unusedSimpArgs false
set_option linter.unusedVariables false
set_option maxHeartbeats 16000000
set_option maxRecDepth 100000
open Array renaming getElem?_eq_some_iff→Ei,getElem?_eq_getElem→E0,replicate→Gq,mem_toList_iff→Hv,mapM_eq_mapM_toList→IM,getElem?_append→Kh,toArray_toList→NP
open Bool renaming and_eq_true→A2,or_eq_true→Ez,false_or→L3,eq_iff_iff→LR,or_eq_false_iff→kC
open Go renaming World→Ae,TypeId→AD,PanicEntry→Bf,Operand→Bl,Program→AJ,Value→Aj
open Go.Region renaming wanted→CY,binds→Fs
open Go.Result renaming andThen_ok→Hy
open List renaming range→Cj,length_cons→Cq,mem_cons_self→CC,all_eq_true→CW,range'_succ→Du,mem_cons_of_mem→D4,pairwise_cons→Eo,length_append→E8,mem_cons→E6,getElem?_eq_some_iff→FI,mem_singleton→F3,mem_of_mem_erase→Gc,map_cons→GN,append_assoc→GZ,length_take→Ha,length_erase_of_mem→Hp,size_toArray→Ht,map_toArray→IH,mapM_cons→Iz,append_nil→Lo,getD_eq_getElem?_getD→Kv,getElem?_take→LX,take_of_length_le→LN,nil_append→P1,nodup_cons→Vm,erase_cons_tail→aI,eq_nil_of_length_eq_zero→bU,eq_nil_iff_forall_not_mem→Zb,getElem?_eq_none→YY,take_set_of_le→jM,drop_set_of_lt→fY,singleton_append→ZS,length_eq_one_iff→aV,getElem?_toArray→dR
open Nat renaming beq→Ao,blt→AA,eq_of_beq_eq_true→Bu,le_of_ble_eq_true→CR,ble→Dr,le_refl→DQ,beq_refl→Ip,add_mul→Ju,sub_zero→Jz,ne_of_lt→Kp,lt_or_ge→KJ,add_assoc→Kn,zero_add→NR,ble_eq_true_of_le→fM
open Option renaming map_some→EY,map_none→Gm
open Decidable renaming decide→Ac
namespace Go.Proofs
end Go.Proofs
namespace Go.Rk
open Go.Proofs
open Go Go.RowKit
theorem O{p:Prop}(h:p:=by omega):p:=h
theorem Ag{p:Prop}(h:p:=by kernel_rfl):p:=h
theorem Gl{p:Prop}(h:p:=by first|exact .inl rfl|exact .inr ⟨by simp,fun hm=>by have:=htb2 _ hm;omega⟩):p:=h
theorem Of{p:Prop}(h:p:=by first|exact .inl rfl|exact .inr ⟨by simp,fun hm=>by have:=hTB _ hm;omega⟩):p:=h
theorem BT{p:Prop}(h:p:=by decide):p:=h
theorem BR{p:Prop}(h:p:=by simp):p:=h
theorem Ch{p:Prop}(h:p:=by first|exact .inl (by omega)|exact .inr (by simp)):p:=h
theorem DZ{p:Prop}(h:p:=by intro j hj;simp at hj ⊢;omega):p:=h
theorem Hk{p:Prop}(h:p:=by intro j hj;simp at hj ⊢ <;> omega):p:=h
theorem Eu{p:Prop}(h:p:=by (have hz:=hc.2;first|(unfold BV at hz;simp at hz;omega)|(simp at hz;omega))):p:=h
theorem Dn{p:Prop}(h:p:=by have:=g.size;omega):p:=h
theorem DD{p:Prop}(h:p:=by exact fun h=>nomatch h):p:=h
theorem Fv{p:Prop}(h:p:=by exact fun k hk _ e=>by injection e with e;omega):p:=h
theorem Mc{p:Prop}(h:p:=by exact fun k hk _ e=>by have:=hOo.ge k e.symm;omega):p:=h
theorem Fo{p:Prop}(h:p:=by exact fun k hk=>hOo.ge k hk):p:=h
theorem EZ{X p q A B:Prop}(x:X)(h:A→B→q)(k:X→(A→B→q)→p:=by exact fun x z=>⟨Fa,z (Hc g x) (E.bf x)⟩):p:=k x h
theorem Ev{X p q A:Prop}(x:X)(h:A→q)(k:X→(A→q)→p:=by exact fun x z=>⟨fun _=>x,z (g.trans x)⟩):p:=k x h
theorem DB{R A B q:Go.World→Prop}(h:∀ w,R w→A w→B w→q w)(k:∀ w,R w→(A w→B w→q w)→q w:=by exact fun _ ga z=>z (g.trans ga) (E.A ga)):∀ w,R w→q w:=fun w r=>k w r (h w r)
theorem I1{X p:Prop}(x:X)(k:X→p:=by intro hz;first|(unfold BV at hz;simp at hz;omega)|(simp at hz;omega)):p:=k x
theorem FE{X p:Prop}(x:X)(k:X→p:=by intro hz;first|(unfold BV at hz;simp at hz;omega)|(simp at hz;omega)):p:=k x
theorem EM{α:Type _}{a b:α}(h:some a=some b):a=b:=Option.some.inj h
theorem CN{c:Prop}[Decidable c]{α:Sort _}{a b:α}(h:¬c):ite c a b=b:=if_neg h
theorem CO{c:Prop}[Decidable c]{α:Sort _}{a b:α}(h:c):ite c a b=a:=if_pos h
theorem Cc:True:=trivial
theorem J{α:Sort _}{a:α}:a=a:=rfl
theorem BM{p:Prop}[Decidable p]:(decide p=true)=p:=decide_eq_true_eq
theorem CB{p:Prop}[Decidable p]:decide p=false↔¬ p:=decide_eq_false_iff_not
theorem AH{p:Prop}[Decidable p]:decide p=true→p:=of_decide_eq_true
theorem CF{p:Prop}[Decidable p]:decide p=false→¬ p:=of_decide_eq_false
theorem AQ{α:Type}(a b:α):cond false a b=b:=rfl
theorem AL{α:Type}(a b:α):cond true a b=a:=rfl
theorem Aq{p:Prop}[Decidable p](h:¬ p):decide p=false:=decide_eq_false h
theorem BU{p:Prop}[Decidable p](h:p):decide p=true:=decide_eq_true h
theorem Ig{a b:Bool}(h:a=b):Value.bool a=Value.bool b:=congrArg Value.bool h
def G(w w':Ae):Prop:=Below w.heap.size w w'
theorem G.refl(w:Ae):G w w:=Below.refl _ _
theorem G.trans{a b c:Ae}(h:G a b)(k:G b c):G a c:=Below.trans h (Below.mono k h.size)
theorem G.drew(w:Ae):G w w.drew:=⟨rfl,rfl,rfl,DQ _,fun _ _=>rfl⟩
theorem G.size{a b:Ae}(h:G a b):a.heap.size≤b.heap.size:=Below.size h
theorem G.block{a b:Ae}(h:G a b){k:Nat}(hk:k<a.heap.size):b.heap[k]? = a.heap[k]?:=Below.block h k hk
def KC(ρ:Option Nat):Fence:={ Fence.wide with round:=ρ }
@[reducible] def QO:List Bf→Act→Ae→Prop:=fun _ _ _=>False
def JV(P:AJ)(Z:List Bf→Act→Ae→Prop)(gr:Bool)(o:Oper)(a:Act)(w:Ae)(next:Act→Ae→Prop):Prop :=
 (∃ v w',(execOp a.eval o).run P w = .ok (.value v) w'∧(gr=true→G w w')∧next (a.put o.dst v) w')∨
 (∃ w',(execOp a.eval o).run P w = .ok .skip w'∧(gr=true→G w w')∧next (a.put o.dst undef) w')∨
 (∃ f args,(execOp a.eval o).run P w = .ok (.enter f args) w∧Calls P f args w fun e w'=>(∃ v,e = .returned v∧(gr=true→G w w')∧next (a.put o.dst v) w')∨(∃ ch,e = .panicked ch∧Z ch a w'))∨
 (∃ l f tmps asg body,(execOp a.eval o).run P w = .ok (.round l f tmps asg body) w∧RoundIn Fence.wide 0 P l f tmps asg body w fun e w'=>∃ v,e = .returned v∧(gr=true→G w w')∧next (a.put o.dst v) w')
theorem mL{P:AJ}{ρ:Bl→Aj}{o:Oper}{c:Call}(ho:o.op = .defer c){w w':Ae}{x:Next}(h:(execOp ρ o).run P w = .ok x w'):∃ d,x = .defer d:=by
 unfold execOp at h;rw [ho] at h;simp only [Sem.run_bind,Sem.run_pure] at h
 cases hr:(resolve ρ c o.type).run P w with
 | ok d w1=>rw [hr] at h;simp only [Hy] at h;injection h with h _;exact ⟨d,h.symm⟩
 | halt s w1=>rw [hr] at h;cases h
theorem O2{P:AJ}{ρ:Option Nat}{a:Act}{o:Oper}{w w':Ae}{x:Next}(h:(execOp a.eval o).run P w = .ok x w')(hd:∀ d,x≠.defer d):Oper.semAt ρ a.eval o=execOp a.eval o :=
 Oper.semAt_eq _ _ _ fun c hc=>by obtain ⟨d,e⟩:=mL hc h;exact hd d e
theorem yX{ρ:Option Nat}{n:Nat}{P:AJ}{f:FuncId}{args:Array Aj}{w:Ae}{R:Ending→Ae→Prop}(h:Calls P f args w R):CallsIn (KC ρ) n P f args w R:=callsIn_wide.2 h
theorem JV.wpIn{P:AJ}{Z:List Bf→Act→Ae→Prop}{gr:Bool}{o:Oper}{a:Act}{w:Ae}{next:Act→Ae→Prop}{Q:Exit→Act→Ae→Prop}{ρ:Option Nat}
 (h:JV P Z gr o a w next) (hZ:∀ ch w',Z ch a w'→Q (.panic ch) a w'):o.wpIn (KC ρ) 0 P a w next Q:=by
 refine ⟨fun _ _=>Cc,?_⟩;rcases h with ⟨v,w',hr,_,hn⟩|⟨w',hr,_,hn⟩|⟨f,ad,hr,hc⟩|⟨l,f,ab,ac,aa,hr,hc⟩;rw [O2 hr (fun d h=>by cases h),hr];exact hn;rw [O2 hr (fun d h=>by cases h),hr];exact hn;rw [O2 hr (fun d h=>by cases h),hr];refine ⟨(fun h=>by cases h),yX (Calls.mono hc fun e w' h=>?_)⟩;rcases h with ⟨v,rfl,_,hn⟩|⟨ch,rfl,hz⟩;exact hn;exact hZ ch w' hz;rw [O2 hr (fun d h=>by cases h),hr];refine ⟨(fun h=>by cases h),(RoundIn.mono hc fun e w' h=>?_:RoundIn Fence.wide 0 P l f ab ac aa w _)⟩;obtain ⟨v,rfl,_,hn⟩:=h;exact hn
theorem JV.some{P:AJ}{Z:List Bf→Act→Ae→Prop}{gr:Bool}{o:Oper}{a:Act}{w:Ae}{next:Act→Ae→Prop}(hZ:∀ ch a w,¬ Z ch a w)(h:JV P Z gr o a w next) :
 ∃ v w',(gr=true→G w w')∧next (a.put o.dst v) w':=by
 rcases h with ⟨v,w',_,hg,hn⟩|⟨w',_,hg,hn⟩|⟨f,ab,_,hc⟩|⟨l,f,ac,ad,aa,_,hc⟩;exact ⟨v,w',hg,hn⟩;exact ⟨undef,w',hg,hn⟩;obtain ⟨e,w',fr,h,_⟩:=hc [];rcases h with ⟨v,_,hg,hn⟩|⟨ch,_,hz⟩;exact ⟨v,w',hg,hn⟩;exact absurd hz (hZ _ _ _);obtain ⟨e,w',⟨v,_,hg,hn⟩,_⟩:=hc.2 default [] (room_wide _);exact ⟨v,w',hg,hn⟩
theorem JV.turn{P:AJ}{Z Z':List Bf→Act→Ae→Prop}{gr:Bool}{o:Oper}{a b:Act}{w:Ae}{next aa:Act→Ae→Prop}(he:execOp b.eval o=execOp a.eval o)
 (hz:∀ ch w',Z ch a w'→Z' ch b w')
 (hn:∀ v w',(gr=true→G w w')→next (a.put o.dst v) w'→aa (b.put o.dst v) w') (h:JV P Z gr o a w next):JV P Z' gr o b w aa:=by
 rcases h with ⟨v,w',hr,hg,h1⟩|⟨w',hr,hg,h1⟩|⟨f,ac,hr,hc⟩|⟨l,f,ad,ae,ab,hr,hc⟩;exact .inl ⟨v,w',by rw [he];exact hr,hg,hn _ _ hg h1⟩;exact .inr (.inl ⟨w',by rw [he];exact hr,hg,hn _ _ hg h1⟩);refine .inr (.inr (.inl ⟨f,ac,by rw [he];exact hr,Calls.mono hc fun e w' h=>?_⟩));rcases h with ⟨v,AU,hg,h1⟩|⟨ch,AU,h1⟩;exact .inl ⟨v,AU,hg,hn _ _ hg h1⟩;exact .inr ⟨ch,AU,hz _ _ h1⟩;refine .inr (.inr (.inr ⟨l,f,ad,ae,ab,by rw [he];exact hr,RoundIn.mono hc fun e w' h=>?_⟩));obtain ⟨v,AU,hg,h1⟩:=h;exact ⟨v,AU,hg,hn _ _ hg h1⟩
section
variable (P:AJ) (Z:List Bf→Act→Ae→Prop) (ops:Array Oper) (cl:Nat→Nat) (lv:Nat→Bool) (W0:Ae) (K:Act→Ae→Prop)
def Tm(cl:Nat→Nat)(lv:Nat→Bool)(W0:Ae)(i:Nat)(w w1:Ae):Prop:=cl i=3∨G (if lv i=true then w else W0) w1
def FL:List Nat→Act→Ae→Prop
 | [],a,w=>K a w
 | i::rest,a,w =>
  ∃ o,ops[i]? = some o∧
  if cl i=0∨cl i=3 then
   ∃ v,(CY o (yielded ops a.tmps)=true→∀ w1,Tm cl lv W0 i w w1→(execOp a.eval o).run P w1 = .ok (.value v) w1)∧
    (CY o (yielded ops a.tmps)=false→v=undef)∧FL rest (a.put o.dst v) w
  else if CY o (yielded ops a.tmps)=true then JV P Z (cl i == 1) o a w (fun a' w'=>FL rest a' w')
  else FL rest (a.put o.dst undef) w
end
section
variable {P:AJ} {Z:List Bf→Act→Ae→Prop} {ops:Array Oper} {cl:Nat→Nat} {lv:Nat→Bool} {wt:Nat→Nat→Bool} {W0:Ae} {K:Act→Ae→Prop}
structure O3 (ops:Array Oper) (cl:Nat→Nat) (lv:Nat→Bool) (wt:Nat→Nat→Bool):Prop where
  sel:∀ (j:Nat) (o:Oper) cs b,ops[j]? = some o→o.op≠.select cs b
  way:∀ (j:Nat) (o:Oper) (i:Nat),ops[j]? = some o→wt j i=true→∃ e,e∈o.after∧Fs .any e=true∧(e.on=i∨wt e.on i=true)
  lt:∀ (j:Nat) (o:Oper) (e:Edge),ops[j]? = some o→e∈o.after→Fs .any e=true→e.on<j
  pair:∀ (i j:Nat) (oi oj:Oper),i<j→ops[i]? = some oi→ops[j]? = some oj→wt j i=false→oi.apart ops oj=true∧(cl i=3∨cl j=3∨(cl i=0∨cl j=0)∧cl i≠2∧cl j≠2)
  cls:∀ i,cl i≤3
  fresh:∀ (i j:Nat),i<j→j<ops.size→cl j=0→lv j=true→cl i≠0→cl i≠3→wt j i=true
  stale:∀ (i j:Nat),i<j→j<ops.size→cl j=0→lv j=false→cl i≠2
theorem lT(hZ:∀ ch a w,¬ Z ch a w)(ok:O3 ops cl lv wt){j:Nat}{oj:Oper}(hj:ops[j]? = some oj)(ai:cl j=0∨cl j=3) :
 ∀ (L:List Nat) (a:Act) (w:Ae),L.Pairwise (· < ·)→j∈L→(∀ i∈L,i<j→wt j i=false)→FL P Z ops cl lv W0 K L a w→
 ∃ v,(CY oj (yielded ops a.tmps)=true→∀ w1,Tm cl lv W0 j w w1→(execOp a.eval oj).run P w1 = .ok (.value v) w1)∧
 (CY oj (yielded ops a.tmps)=false→v=undef)∧FL P Z ops cl lv W0 K (L.erase j) (a.put oj.dst v) w:=by
 intro L
 induction L with
 | nil=>intro a w _ hm;cases hm
 | cons i rest ih =>
  intro a w hs hm hr h;obtain ⟨oi,aa,hb⟩:=h;by_cases hij:i=j;subst hij;obtain rfl:oi=oj:=EM (aa.symm.trans hj);rw [CO ai] at hb;obtain ⟨v,h1,h2,h3⟩:=hb;exact ⟨v,h1,h2,by simpa using h3⟩
  have ab:j∈rest:=by
   rcases E6.1 hm with h|h;exact absurd h.symm hij;exact h
  have af:i<j:=(Eo.1 hs).1 j ab;have ag:∀ k∈rest,k<j→wt j k=false:=fun k hk=>hr k (D4 _ hk);have hw:=hr i CC af;obtain ⟨an,aq⟩:=ok.pair i j oi oj af aa hj hw;obtain ⟨p1,p2,p3⟩:=Oper.apart_spec an
  have he:(i::rest).erase j=i::rest.erase j:=by
   rw [aI];simpa using hij
  have ad:∀ v,execOp (a.put oi.dst v).eval oj=execOp a.eval oj:=fun v=>execOp_put (ops:=ops) oj (fun cs b=>ok.sel j oj cs b hj) a oi.dst v p1;have ae:∀ v,CY oj (yielded ops (a.put oi.dst v).tmps)=CY oj (yielded ops a.tmps):=fun v=>wanted_put oj a oi.dst v p1;have ak:∀ v,execOp (a.put oj.dst v).eval oi=execOp a.eval oi:=fun v=>execOp_put (ops:=ops) oi (fun cs b=>ok.sel i oi cs b aa) a oj.dst v p3;have ac:∀ v,CY oi (yielded ops (a.put oj.dst v).tmps)=CY oi (yielded ops a.tmps):=fun v=>wanted_put oi a oj.dst v p3;have ah:∀ u v,(a.put oi.dst u).put oj.dst v=(a.put oj.dst v).put oi.dst u:=fun u v=>Act.put_comm a u v p2;by_cases hci:cl i=0∨cl i=3;rw [CO hci] at hb;obtain ⟨u,h1,h2,h3⟩:=hb;obtain ⟨v,k1,k2,k3⟩:=ih (a.put oi.dst u) w (Eo.1 hs).2 ab ag h3;rw [ae] at k1 k2;rw [ad] at k1;refine ⟨v,k1,k2,?_⟩;rw [he];refine ⟨oi,aa,?_⟩;rw [CO hci];refine ⟨u,?_,?_,?_⟩;rw [ac,ak];exact h1;rw [ac];exact h2;rw [← ah];exact k3;rw [CN hci] at hb;by_cases hwi:CY oi (yielded ops a.tmps)=true;rw [CO hwi] at hb
  have al:∀ w' w1,Tm cl lv W0 j w' w1↔(cl j=3∨G W0 w1):=by
   intro w' w1;unfold Tm;rcases ai with hc|hc
   have ap:lv j=false:=by
    cases hl:lv j with
    | false=>rfl
    | true =>
     have:=ok.fresh i j af (Ei.1 hj).1 hc hl (fun h=>hci (.inl h)) (fun h=>hci (.inr h));rw [this] at hw;cases hw
   rw [CN (by rw [ap];simp)];simp [hc]
  have aj:∀ u w',FL P Z ops cl lv W0 K rest (a.put oi.dst u) w'→∃ v,(CY oj (yielded ops a.tmps)=true→∀ w1,(cl j=3∨G W0 w1)→(execOp a.eval oj).run P w1 = .ok (.value v) w1)∧
    (CY oj (yielded ops a.tmps)=false→v=undef)∧FL P Z ops cl lv W0 K (rest.erase j) ((a.put oi.dst u).put oj.dst v) w':=by
   intro u w' h3
   obtain ⟨v,k1,k2,k3⟩:=ih (a.put oi.dst u) w' (Eo.1 hs).2 ab ag h3
   rw [ae] at k1 k2
   rw [ad] at k1
   exact ⟨v,fun hh w1 hg=>k1 hh w1 ((al _ _).2 hg),k2,k3⟩
  obtain ⟨u0,am,_,ao⟩:=hb.some hZ;obtain ⟨v,k1,k2,_⟩:=aj u0 am ao;refine ⟨v,fun hh w1 hg=>k1 hh w1 ((al _ _).1 hg),k2,?_⟩;rw [he];refine ⟨oi,aa,?_⟩;rw [CN hci,ac,CO hwi];refine hb.turn (ak v) (fun ch w' h=>absurd h (hZ _ _ _)) fun u w' _ h3=>?_;obtain ⟨v',q1,q2,q3⟩:=aj u w' h3
  have hv:v'=v:=by
   cases hwj:CY oj (yielded ops a.tmps) with
   | true =>
    have AU:=k1 hwj W0 (.inr (G.refl _));have e2:=q1 hwj W0 (.inr (G.refl _));rw [AU] at e2;injection e2 with e2 _;injection e2 with e2;exact e2.symm
   | false=>rw [k2 hwj,q2 hwj]
  subst hv;rw [← ah];exact q3;rw [CN hwi] at hb;obtain ⟨v,k1,k2,k3⟩:=ih (a.put oi.dst undef) w (Eo.1 hs).2 ab ag hb;rw [ae] at k1 k2;rw [ad] at k1;refine ⟨v,k1,k2,?_⟩;rw [he];refine ⟨oi,aa,?_⟩;rw [CN hci,ac,CN hwi,← ah];exact k3
theorem vL(hZ:∀ ch a w,¬ Z ch a w)(ok:O3 ops cl lv wt){j:Nat}{oj:Oper}(hj:ops[j]? = some oj)(ad:¬ (cl j=0∨cl j=3)) :
 ∀ (L:List Nat) (a:Act) (w:Ae),L.Pairwise (· < ·)→j∈L→(∀ i∈L,i<j→wt j i=false)→FL P Z ops cl lv W0 K L a w→
 if CY oj (yielded ops a.tmps)=true then JV P Z (cl j == 1) oj a w (fun a' w'=>FL P Z ops cl lv W0 K (L.erase j) a' w')
 else FL P Z ops cl lv W0 K (L.erase j) (a.put oj.dst undef) w:=by
 intro L
 induction L with
 | nil=>intro a w _ hm;cases hm
 | cons i rest ih =>
  intro a w hs hm hr h;obtain ⟨oi,ab,hb⟩:=h;by_cases hij:i=j;subst hij;obtain rfl:oi=oj:=EM (ab.symm.trans hj);rw [CN ad] at hb;simpa using hb
  have ah:j∈rest:=by
   rcases E6.1 hm with h|h;exact absurd h.symm hij;exact h
  have ag:i<j:=(Eo.1 hs).1 j ah;have an:∀ k∈rest,k<j→wt j k=false:=fun k hk=>hr k (D4 _ hk);have hw:=hr i CC ag;obtain ⟨al,ak⟩:=ok.pair i j oi oj ag ab hj hw
  have ae:cl i=3∨cl i=0∧cl j=1:=by
   have aq:=ok.cls j;rcases ak with h|h|⟨h,_,h2⟩;exact .inl h;exact absurd (.inr h) ad;rcases h with h|h;exact .inr ⟨h,O⟩;exact absurd (.inl h) ad
  have ac:cl i=0∨cl i=3:=by
   rcases ae with h|h;exact .inr h;exact .inl h.1
  obtain ⟨p1,p2,p3⟩:=Oper.apart_spec al
  have he:(i::rest).erase j=i::rest.erase j:=by
   rw [aI];simpa using hij
  have ai:∀ v,execOp (a.put oi.dst v).eval oj=execOp a.eval oj:=fun v=>execOp_put (ops:=ops) oj (fun cs b=>ok.sel j oj cs b hj) a oi.dst v p1;have am:∀ v,CY oj (yielded ops (a.put oi.dst v).tmps)=CY oj (yielded ops a.tmps):=fun v=>wanted_put oj a oi.dst v p1;have ao:∀ v,execOp (a.put oj.dst v).eval oi=execOp a.eval oi:=fun v=>execOp_put (ops:=ops) oi (fun cs b=>ok.sel i oi cs b ab) a oj.dst v p3;have af:∀ v,CY oi (yielded ops (a.put oj.dst v).tmps)=CY oi (yielded ops a.tmps):=fun v=>wanted_put oi a oj.dst v p3;have ap:∀ u v,(a.put oi.dst u).put oj.dst v=(a.put oj.dst v).put oi.dst u:=fun u v=>Act.put_comm a u v p2;rw [CO ac] at hb;obtain ⟨u,h1,h2,h3⟩:=hb;have k:=ih (a.put oi.dst u) w (Eo.1 hs).2 ah an h3;rw [am] at k
  have back:∀ x w',(cl j=1→G w w')→FL P Z ops cl lv W0 K (rest.erase j) ((a.put oi.dst u).put oj.dst x) w'→FL P Z ops cl lv W0 K ((i::rest).erase j) (a.put oj.dst x) w':=by
   intro x w' hg hk;rw [he];refine ⟨oi,ab,?_⟩;rw [CO ac];refine ⟨u,?_,?_,?_⟩;rw [af,ao];intro aj w1 aa;refine h1 aj w1 ?_;rcases aa with aa|aa;exact .inl aa;rcases ae with hc|⟨_,hc⟩;exact .inl hc;refine .inr ?_;by_cases hl:lv i=true;rw [CO hl] at aa ⊢;exact (hg hc).trans aa;rw [CN hl] at aa ⊢;exact aa;rw [af];exact h2;rw [← ap];exact hk
  by_cases hwj:CY oj (yielded ops a.tmps)=true;rw [CO hwj] at k ⊢;refine k.turn (ai u).symm (fun ch w' h=>absurd h (hZ _ _ _)) fun x w' hg hk=>back x w' (fun h=>hg (by simp [h])) hk;rw [CN hwj] at k ⊢;exact back _ _ (fun _=>G.refl _) k
structure Left (ops:Array Oper) (L:List Nat) (listed:Array Bool):Prop where
  size:listed.size=ops.size
  sorted:L.Pairwise (· < ·)
  N:∀ i,i∈L↔i<ops.size∧listed.getD i true=false
  closed:∀ j oj,ops[j]? = some oj→j∉L→∀ e∈oj.after,Fs .any e=true→e.on∉L
theorem Left.waits(ok:O3 ops cl lv wt){L:List Nat}{listed:Array Bool}(hL:Left ops L listed) :
 ∀ (n j:Nat) (oj:Oper),j≤n→ops[j]? = some oj→(∀ e∈oj.after,Fs .any e=true→e.on∉L)→∀ i∈L,wt j i=false:=by
 intro n
 induction n with
 | zero =>
  intro j oj ad hj _ i _
  cases hw:wt j i with
  | false=>rfl
  | true =>
   obtain ⟨e,he,hb,_⟩:=ok.way j oj i hj hw;have:=ok.lt j oj e hj he hb;omega
 | succ n ih =>
  intro j oj ad hj ac i hi
  cases hw:wt j i with
  | false=>rfl
  | true =>
   obtain ⟨e,he,hb,hh⟩:=ok.way j oj i hj hw;have af:=ok.lt j oj e hj he hb;have aa:=ac e he hb;rcases hh with rfl|hh;exact absurd hi aa;have ae:e.on<ops.size:=by have:=(Ei.1 hj).1;omega
   have ab:ops[e.on]? = some ops[e.on]:=E0 ae;have:=ih e.on _ O ab (hL.closed e.on _ ab aa) i hi;rw [this] at hh;cases hh
theorem Left.step{L:List Nat}{listed:Array Bool}(hL:Left ops L listed){j:Nat}{oj:Oper}(hj:ops[j]? = some oj)(aa:∀ e∈oj.after,Fs .any e=true→e.on∉L) :
 Left ops (L.erase j) (listed.setIfInBounds j true):=by
 have ad:j<listed.size:=by rw [hL.size];exact (Ei.1 hj).1
 have nd:L.Nodup:=hL.sorted.imp (fun h=>Kp h);refine ⟨by simp [hL.size],hL.sorted.sublist List.erase_sublist,fun i=>?_,fun k ab hk ac e he hb=>?_⟩;rw [nd.mem_erase_iff,hL.N];by_cases hij:i=j;subst hij;simp [ad];rw [getD_set_ne true (fun h=>hij h.symm)];simp [hij];by_cases hkj:k=j;subst hkj;obtain rfl:ab=oj:=EM (hk.symm.trans hj);exact fun h=>aa e he hb (Gc h);have ae:k∉L:=fun h=>ac (nd.mem_erase_iff.2 ⟨hkj,h⟩);exact fun h=>hL.closed k ab hk ae e he hb (Gc h)
theorem tO{ρ:Option Nat}(hZ:∀ ch a w,¬ Z ch a w)(ok:O3 ops cl lv wt){Q:Exit→Act→Ae→Prop}(hQ:∀ a w,K a w→Q .normal a w) :
 ∀ (n:Nat) (L:List Nat) (listed:Array Bool) (a:Act) (w:Ae),L.length=n→Left ops L listed→(∀ i∈L,cl i=0→lv i=false→G W0 w)→FL P Z ops cl lv W0 K L a w→
 wpAnyIn (KC ρ) 0 P .any ops Q n listed a w:=by
 intro n
 induction n with
 | zero =>
  intro L listed a w hn hL hG h;obtain rfl:L=[]:=bU hn;refine ⟨?_,hQ _ _ h⟩;refine Zb.2 fun j hj=>?_;obtain ⟨h0,o,ho,_⟩:=mem_ready.1 hj;have:=(hL.N j).2 ⟨(Ei.1 ho).1,h0⟩;cases this
 | succ n ih =>
  intro L listed a w hn hL hG h
  have ar:∀ j,j∈Region.ready .any ops listed→∃ oj,ops[j]? = some oj∧j∈L∧∀ e∈oj.after,Fs .any e=true→e.on∉L:=by
   intro j hj;obtain ⟨h0,oj,ho,aa⟩:=mem_ready.1 hj;have aj:=(Ei.1 ho).1;refine ⟨oj,ho,(hL.N j).2 ⟨aj,h0⟩,fun e he hb hm=>?_⟩;have h1:=aa e he hb;obtain ⟨h2,h3⟩:=(hL.N e.on).1 hm;have h4:e.on<listed.size:=by rw [hL.size];exact h2
   simp [h4] at h1 h3;rw [h1] at h3;cases h3
  refine ⟨fun h0=>?_,fun j hj=>?_⟩;exfalso
  match L,hn,hL,h with
  | i::rest,_,hL,h =>
   obtain ⟨oi,ak,_⟩:=h;have ap:=(hL.N i).1 CC
   have:i∈Region.ready .any ops listed:=by
    refine mem_ready.2 ⟨ap.2,oi,ak,fun e he hb=>?_⟩;have an:=ok.lt i oi e ak he hb
    have aq:e.on∉i::rest:=by
     intro hm;rcases E6.1 hm with hm|hm;omega;have:=(Eo.1 hL.sorted).1 _ hm;omega
    have am:e.on<listed.size:=by rw [hL.size];omega
    cases hl:listed.getD e.on true with
    | false=>exact absurd ((hL.N e.on).2 ⟨by rw [← hL.size];exact am,hl⟩) aq
    | true=>simpa [am] using hl
   rw [h0] at this;cases this
  obtain ⟨oj,ab,ac,aa⟩:=ar j hj;have ah:∀ i∈L,wt j i=false:=hL.waits ok j j oj (DQ _) ab aa;have ai:=hL.step ab aa;have ad:(L.erase j).length=n:=by rw [Hp ac];omega
  have nd:L.Nodup:=hL.sorted.imp (fun h=>Kp h);unfold wpOpIn;simp only [ab];by_cases hc:cl j=0∨cl j=3;obtain ⟨v,h1,h2,h3⟩:=lT hZ ok ab hc L a w hL.sorted ac (fun i hi _=>ah i hi) h;have ag:∀ i∈L.erase j,cl i=0→lv i=false→G W0 w:=fun i hi=>hG i (Gc hi);have ae:=ih (L.erase j) _ (a.put oj.dst v) w ad ai ag h3;by_cases hwj:CY oj (yielded ops a.tmps)=true;rw [CO hwj]
  have hr:=h1 hwj w (by
   rcases hc with hc|hc;refine .inr ?_;by_cases hl:lv j=true;rw [CO hl];exact G.refl _;rw [CN hl];exact hG j ac hc (by simpa using hl);exact .inl hc)
  refine ⟨fun _ _=>Cc,?_⟩;rw [O2 hr (fun d h=>by cases h),hr];exact ae;rw [CN hwj];have:=h2 (by simpa using hwj);subst this;exact ⟨fun _ _=>Cc,ae⟩;have h1:=vL hZ ok ab hc L a w hL.sorted ac (fun i hi _=>ah i hi) h
  have ag:∀ w',(cl j=1→G w w')→∀ i∈L.erase j,cl i=0→lv i=false→G W0 w':=by
   intro w' hg i hi al hl;obtain ⟨ax,af⟩:=nd.mem_erase_iff.1 hi;have ao:=((hL.N i).1 af).1;have aj:=((hL.N j).1 ac).1
   have au:cl j=1:=by
    have ay:=ok.cls j
    have aw:cl j≠2:=by
     intro h2;rcases KJ i j with an|av;have:=(ok.pair i j ops[i] oj an (E0 ao) ab (ah i af)).2;rcases this with h|h|h;omega;omega;exact h.2.2 h2;exact ok.stale j i O ao al hl h2
    omega
   exact (hG i af al hl).trans (hg au)
  by_cases hwj:CY oj (yielded ops a.tmps)=true;rw [CO hwj] at h1 ⊢;refine JV.wpIn (Z:=Z) (gr:=cl j == 1) ?_ (fun ch w' h=>absurd h (hZ _ _ _));refine h1.turn rfl (fun _ _ h=>h) fun v w' hg hk=>?_;exact ih (L.erase j) _ _ w' ad ai (ag w' fun e=>hg (by simp [e])) hk;rw [CN hwj] at h1 ⊢;exact ⟨fun _ _=>Cc,ih (L.erase j) _ _ w ad ai (fun i hi=>hG i (Gc hi)) h1⟩
theorem ZO(ops:Array Oper):Left ops (Cj ops.size) (Gq ops.size false):=by
 refine ⟨by simp,List.pairwise_lt_range,fun i=>?_,fun j oj hj hn=>?_⟩;rw [List.mem_range];constructor;intro h;exact ⟨h,by simp [h]⟩;exact fun h=>h.1;exact absurd (List.mem_range.2 (Ei.1 hj).1) hn
theorem mI{ρ:Option Nat}(hZ:∀ ch a w,¬ Z ch a w)(ok:O3 ops cl lv wt){id:Nat}{Q:Exit→Act→Ae→Prop}{a:Act}{w:Ae}(hm:P.follows .mixedOrders=true)
 (h:FL P Z ops cl lv w.drew (fun a w=>Q .normal a w) (Cj ops.size) a w.drew):(Code.region id ops true).wpIn (KC ρ) 0 P Q a w:=by
 refine wpIn_region_any hm ?_;have:=tO (Q:=Q) (ρ:=ρ) hZ ok (fun _ _ h=>h) (Cj ops.size).length (Cj ops.size) (Gq ops.size false) a w.drew rfl (ZO ops) (fun _ _ _ _=>G.refl _) h;simpa using this
theorem oD(ok:O3 ops cl lv wt){id:Nat}{Q:Exit→Act→Ae→Prop}{a:Act}{w:Ae}(hm:P.follows .mixedOrders=true)
  (h:FL P QO ops cl lv w.drew (fun a w=>Q .normal a w) (Cj ops.size) a w.drew):(Code.region id ops true).wp P Q a w :=
 wpIn_wide.1 (mI (ρ:=none) (fun _ _ _ h=>h) ok hm h)
theorem O6{ρ:Option Nat}{Q:Exit→Act→Ae→Prop}(hZ:∀ ch a w,Z ch a w→Q (.panic ch) a w):∀ (L:List Nat) (a:Act) (w:Ae),FL P Z ops cl (fun _=>true) W0 (fun a w=>Q .normal a w) L a w→wpOpsIn (KC ρ) 0 P ops Q L a w
 | [],_,_,h=>h
 | i::rest,a,w,h=>by
  obtain ⟨o,ho,hb⟩:=h;unfold wpOpsIn;simp only [ho];by_cases hw:CY o (yielded ops a.tmps)=true;rw [CO hw];by_cases hc:cl i=0∨cl i=3;rw [CO hc] at hb;obtain ⟨v,h1,_,h3⟩:=hb;have hr:=h1 hw w (.inr (by rw [CO rfl];exact G.refl _));refine ⟨fun _ _=>Cc,?_⟩;rw [O2 hr (fun d h=>by cases h),hr];exact O6 hZ rest _ _ h3;rw [CN hc,CO hw] at hb;exact JV.wpIn (hb.turn rfl (fun _ _ h=>h) fun v w' _ hk=>O6 hZ rest _ _ hk) (fun ch w' h=>hZ _ _ _ h);rw [CN hw];refine ⟨fun _ _=>Cc,?_⟩;by_cases hc:cl i=0∨cl i=3;rw [CO hc] at hb;obtain ⟨v,_,h2,h3⟩:=hb;have:=h2 (by simpa using hw);subst this;exact O6 hZ rest _ _ h3;rw [CN hc,CN hw] at hb;exact O6 hZ rest _ _ hb
theorem Wx{ρ:Option Nat}{id:Nat}{Q:Exit→Act→Ae→Prop}{a:Act}{w:Ae}(hZ:∀ ch a w,Z ch a w→Q (.panic ch) a w)(h:FL P Z ops cl (fun _=>true) W0 (fun a w=>Q .normal a w) (Cj ops.size) a w) :
  (Code.region id ops false).wpIn (KC ρ) 0 P Q a w:=wpIn_region (O6 hZ _ _ _ h)
theorem rT{id:Nat}{Q:Exit→Act→Ae→Prop}{a:Act}{w:Ae}(h:FL P QO ops cl (fun _=>true) W0 (fun a w=>Q .normal a w) (Cj ops.size) a w) :
  (Code.region id ops false).wp P Q a w:=wpIn_wide.1 (Wx (ρ:=none) (fun _ _ _ h=>h.elim) h)
end
def Bw(cl:List Nat)(i:Nat):Nat:=cl.getD i 0
def JN(lv:List Bool)(i:Nat):Bool:=lv.getD i true
def Iu(ms:List Nat)(j i:Nat):Bool:=(ms.getD j 0).testBit i
def Nu(ms:List Nat):List Edge→Nat
 | []=>0
 | e::r=>if Fs .any e=true then (2 ^ e.on) ||| (ms.getD e.on 0) ||| Nu ms r else Nu ms r
def S2(o:Oper):Bool:=match o.op with | .select ..=>false|_=>true
def M2(ops:Array Oper)(cl:List Nat)(lv:List Bool)(ms:List Nat)(E:List (Nat×Oper×Nat))(k:Nat)(o:Oper):Bool :=
 S2 o&&Dr (Bw cl k) 3&&o.after.toList.all (fun e=>!Fs .any e || AA e.on k)&&Ao (ms.getD k 0) (Nu ms o.after.toList) &&
 E.all (fun p=>(ms.getD k 0).testBit p.1 || (p.2.1.apart ops o&&(Ao p.2.2 3 || Ao (Bw cl k) 3 || (Ao p.2.2 0 || Ao (Bw cl k) 0) && !Ao p.2.2 2 && !Ao (Bw cl k) 2))) &&
 (!Ao (Bw cl k) 0 || if JN lv k=true then E.all (fun p=>Ao p.2.2 0 || Ao p.2.2 3 || (ms.getD k 0).testBit p.1) else E.all (fun p=>!Ao p.2.2 2))
def T2(ops:Array Oper)(cl:List Nat)(lv:List Bool)(ms:List Nat):List (Nat×Oper×Nat)→Nat→List Oper→Bool
 | _,_,[]=>true
 | E,k,o::rest=>M2 ops cl lv ms E k o&&T2 ops cl lv ms ((k,o,Bw cl k)::E) (k+1) rest
def ST(l:List Oper)(cl:List Nat)(lv:List Bool)(ms:List Nat):Bool :=
 T2 l.toArray cl lv ms [] 0 l&&Dr cl.length l.length&&Dr ms.length l.length
theorem UE(ms:List Nat)(i:Nat):∀ (l:List Edge),(Nu ms l).testBit i=true→∃ e,e∈l∧Fs .any e=true∧(e.on=i∨Iu ms e.on i=true)
 | [],h=>by simp [Nu] at h
 | e::r,h=>by
  unfold Nu at h;by_cases hb:Fs .any e=true;rw [CO hb,Nat.testBit_or,Nat.testBit_or,Ez,Ez] at h;rcases h with (h|h)|h;refine ⟨e,CC,hb,.inl ?_⟩;rw [Nat.testBit_two_pow] at h;simpa using h;exact ⟨e,CC,hb,.inr h⟩;obtain ⟨e',h1,h2⟩:=UE ms i r h;exact ⟨e',D4 _ h1,h2⟩;rw [CN hb] at h;obtain ⟨e',h1,h2⟩:=UE ms i r h;exact ⟨e',D4 _ h1,h2⟩
theorem YR(ops:Array Oper)(cl:List Nat)(lv:List Bool)(ms:List Nat):∀ (l:List Oper) (E:List (Nat×Oper×Nat)) (k:Nat),
  (∀ j,l[j]? = ops[k+j]?)→(∀ i,i<k→∃ oi,ops[i]? = some oi∧(i,oi,Bw cl i)∈E)→T2 ops cl lv ms E k l=true→
  ∀ j oj,k≤j→ops[j]? = some oj→∃ E',(∀ i,i<j→∃ oi,ops[i]? = some oi∧(i,oi,Bw cl i)∈E')∧M2 ops cl lv ms E' j oj=true
 | [],_,k,hl,_,_=>by
  intro j oj aa hj;have:=hl (j-k);rw [show k+(j-k)=j by omega,hj] at this;simp at this
 | o::rest,E,k,hl,hE,h=>by
  intro j oj aa hj;unfold T2 at h;rw [A2] at h;have h0:ops[k]? = some o:=by simpa using (hl 0).symm
  by_cases hjk:j=k;subst hjk;obtain rfl:o=oj:=EM (h0.symm.trans hj);exact ⟨E,hE,h.1⟩;refine YR ops cl lv ms rest ((k,o,Bw cl k)::E) (k+1) (fun j=>by have:=hl (j+1);simpa [Kn,Nat.add_comm 1 j] using this) ?_ h.2 j oj O hj;intro i hi;by_cases hik:i=k;subst hik;exact ⟨o,h0,CC⟩;obtain ⟨oi,h1,h2⟩:=hE i O;exact ⟨oi,h1,D4 _ h2⟩
theorem qF{l:List Oper}{cl:List Nat}{lv:List Bool}{ms:List Nat}(h:ST l cl lv ms=true):O3 l.toArray (Bw cl) (JN lv) (Iu ms):=by
 unfold ST at h;rw [A2,A2] at h;obtain ⟨⟨h,ah⟩,ae⟩:=h;have S:=YR l.toArray cl lv ms l [] 0 BR (fun i hi=>absurd hi O) h;have at_:∀ j oj,l.toArray[j]? = some oj→∃ E',(∀ i,i<j→∃ oi,l.toArray[i]? = some oi∧(i,oi,Bw cl i)∈E')∧M2 l.toArray cl lv ms E' j oj=true:=fun j oj hj=>S j oj (Nat.zero_le _) hj
 have ac:∀ j,l.toArray.size≤j→Bw cl j=0∧ms.getD j 0=0:=by
  intro j hj;have h1:=CR ah;have h2:=CR ae;simp only [Ht] at hj;constructor;unfold Bw;rw [Kv,YY O];rfl;rw [Kv,YY O];rfl
 refine ⟨?_,?_,?_,?_,?_,?_,?_⟩;intro j o cs b hj ag;obtain ⟨E',_,hh⟩:=at_ j o hj;simp [M2,S2,ag] at hh;intro j o i hj hw;obtain ⟨E',_,hh⟩:=at_ j o hj;simp only [M2,A2] at hh;have hm:=Bu hh.1.1.2;unfold Iu at hw;rw [hm] at hw;obtain ⟨e,h1,h2⟩:=UE ms i _ hw;exact ⟨e,Hv.1 h1,h2⟩;intro j o e hj he hb;obtain ⟨E',_,hh⟩:=at_ j o hj;simp only [M2,A2,CW,Hv,Ez,Bool.not_eq_true'] at hh;rcases hh.1.1.1.2 e he with h1|h1;rw [hb] at h1;cases h1;exact CR h1;intro i j oi oj aa hi hj hw;obtain ⟨E',hE,hh⟩:=at_ j oj hj;simp only [M2,A2,CW,Ez] at hh;obtain ⟨af,h1,h2⟩:=hE i aa;obtain rfl:af=oi:=EM (h1.symm.trans hi);rcases hh.1.2 _ h2 with h3|h3;unfold Iu at hw;rw [h3] at hw;cases hw;obtain ⟨a1,h4⟩:=h3;refine ⟨a1,?_⟩;rcases h4 with (h4|h4)|h4;exact .inl (Bu h4);exact .inr (.inl (Bu h4));obtain ⟨⟨a2,a3⟩,a4⟩:=h4;refine .inr (.inr ⟨?_,?_,?_⟩);rcases a2 with a2|a2;exact .inl (Bu a2);exact .inr (Bu a2);intro h;dsimp only at a3;rw [h] at a3;simp at a3;intro h;rw [h] at a4;simp at a4;intro i;rcases KJ i l.toArray.size with hi|hi;obtain ⟨E',_,hh⟩:=at_ i _ (E0 hi);simp only [M2,A2] at hh;exact CR hh.1.1.1.1.2;rw [(ac i hi).1];omega;intro i j aa hj ab hl hc ad;obtain ⟨E',hE,hh⟩:=at_ j _ (E0 hj);obtain ⟨oi,h1,h2⟩:=hE i aa;simp only [M2,A2] at hh;have h3:=hh.2;rw [ab,hl] at h3
 simp only [Ip,Bool.not_true,L3,if_true,CW,Ez] at h3;rcases h3 _ h2 with (h3|h3)|h3;exact absurd (Bu h3) hc;exact absurd (Bu h3) ad;exact h3;intro i j aa hj ab hl hc;obtain ⟨E',hE,hh⟩:=at_ j _ (E0 hj);obtain ⟨oi,h1,h2⟩:=hE i aa;simp only [M2,A2] at hh;have h3:=hh.2;rw [ab,hl] at h3;simp only [Ip,Bool.not_true,L3] at h3;rw [CN BR] at h3;have h4:=CW.1 h3 _ h2;dsimp only at h4;rw [hc] at h4;simp at h4
abbrev Ce:=Nat×Prop×Aj
def Ex:List Ce→Nat→Option (Prop×Aj)
 | [],_=>none
 | (k,c,v)::r,t=>bif Ao k t then some (c,v) else Ex r t
def Cl(n:Nat)(σ:List Ce)(a:Act):Prop :=
 a.tmps.size=n∧a.defers=[]∧∀ t c v,Ex σ t=some (c,v)→(c→a.tmps[t]? = some v)∧(¬ c→a.tmps[t]? = some undef)
def BI(n:Nat)(σ:List Ce)(c:Prop)(x:Bl)(v:Aj):Prop:=∀ a,Cl n σ a→c→a.eval x=v
theorem UL(a:Act)(v:Aj):a.eval (.const v)=v:=rfl
theorem Cl.y{n:Nat}{σ:List Ce}{a:Act}(h:Cl n σ a){t:Nat}{c:Prop}{v:Aj}(hl:Ex σ t=some (c,v))(hc:c):a.tmps[t]? = some v:=(h.2.2 t c v hl).1 hc
section
variable {n:Nat} {σ:List Ce} {c:Prop} {v:Aj}
theorem Ab{t:Nat}(h:Ex σ t=some (True,v)):BI n σ c (.tmp t) v:=fun a ha _=>by
 simp [Act.eval,ha.y h Cc]
theorem Ah{t:Nat}{c':Prop}(h:Ex σ t=some (c',v))(hc:c→c'):BI n σ c (.tmp t) v:=fun a ha h1=>by
 simp [Act.eval,ha.y h (hc h1)]
theorem Bd:BI n σ c (.const v) v:=fun _ _ _=>rfl
theorem IV{g:Nat}:BI n σ c (.global g) (.pointer (some ⟨g,0,none⟩)):=fun _ _ _=>rfl
theorem BX{f:Nat}:BI n σ c (.func f) (.func (.func f) #[] #[]):=fun _ _ _=>rfl
theorem BI.to{x:Bl}{v':Aj}(h:BI n σ c x v)(e:c→v=v'):BI n σ c x v':=fun a ha hc=>(h a ha hc).trans (e hc)
end
theorem Cl.put{n:Nat}{σ:List Ce}{a:Act}(h:Cl n σ a){d:Nat}(hd:AA d n=true){c:Prop}{v v':Aj}(h1:c→v'=v)(h2:¬ c→v'=undef) :
 Cl n ((d,c,v) :: σ) (a.put (some d) v'):=by
 have aa:d<n:=CR hd;refine ⟨by simp [Act.put,h.1],h.2.1,fun t c' u hl=>?_⟩;unfold Ex at hl;by_cases ht:d=t;subst ht;simp only [Ip,AL] at hl;injection hl with hl;injection hl with AU e2;subst AU;subst e2;have hs:d<a.tmps.size:=by rw [h.1];exact aa
 simp only [Act.put];rw [Array.getElem?_setIfInBounds_self_of_lt hs];exact ⟨fun hc=>by rw [h1 hc],fun hc=>by rw [h2 hc]⟩
 have:Ao d t=false:=by
  cases hb:Ao d t with
  | false=>rfl
  | true=>exact absurd (Bu hb) ht
 rw [this] at hl;simp only [AQ] at hl;simp only [Act.put];rw [Array.getElem?_setIfInBounds_ne ht];exact h.2.2 t c' u hl
def H0(τ σ:List Ce):Prop:=∀ t c v,Ex τ t=some (c,v)→Ex σ t=some (c,v)
theorem M3(σ:List Ce):H0 [] σ:=fun _ _ _ h=>by simp [Ex] at h
theorem Hr{t:Nat}{c:Prop}{v:Aj}{τ σ:List Ce}(h:Ex σ t=some (c,v))(k:H0 τ σ):H0 ((t,c,v) :: τ) σ:=fun u c' v' hl=>by
 unfold Ex at hl
 cases hb:Ao t u with
 | true =>
  rw [hb] at hl;obtain rfl:=Bu hb;simp only [AL] at hl;injection hl with hl;injection hl with AU e2;subst AU;subst e2;exact h
 | false=>rw [hb] at hl;exact k u c' v' hl
theorem Bp{σ τ:List Ce}(h:H0 τ σ:=by repeat (first|exact M3 _|refine Hr rfl ?_)):H0 τ σ:=h
theorem Cl.sub{n:Nat}{τ σ:List Ce}{a:Act}(h:Cl n σ a)(k:H0 τ σ):Cl n τ a:=⟨h.1,h.2.1,fun t c v hl=>h.2.2 t c v (k t c v hl)⟩
structure Db (P:AJ) (n:Nat) (σ:List Ce) (c:Prop) (wb:Ae) (op:Op) (ty:AD) (v:Aj):Prop where mk ::
  h:∀ (d:Option Tmp) (pos:String) (after:Array Edge) (g:Option (Nat×Bool)) (a:Act),Cl n σ a→c→∀ w1,G wb w1→(execOp a.eval ⟨d,op,ty,pos,after,g⟩).run P w1 = .ok (.value v) w1
instance {P:AJ} {n:Nat} {σ:List Ce} {c:Prop} {wb:Ae} {op:Op} {ty:AD} {v:Aj}:CoeFun (Db P n σ c wb op ty v) fun _=>∀ (d:Option Tmp) (pos:String) (after:Array Edge) (g:Option (Nat×Bool)) (a:Act),Cl n σ a→c→∀ w1,G wb w1→(execOp a.eval ⟨d,op,ty,pos,after,g⟩).run P w1 = .ok (.value v) w1:=⟨Db.h⟩
def GK(P:AJ)(t:AD):Bool:=match P.underlying t with|some (.struct _)=>false|some (.array _ _)=>false|some _=>true|none=>false
def I0(P:AJ)(t:AD):Option Nat:=match P.underlying t,P.info? t with|some (.struct _),some i=>some i.size|some (.array _ _),some i=>some i.size|_,_=>none
def Im(P:AJ)(t:AD):Option Nat:=(P.info? t).map (·.size)
def Gf(P:AJ)(t:AD):Option (AD×Nat×Nat):=match P.underlying t with|some (.slice e)=>(P.info? e).map fun i=>(e,i.size,i.bytes)|_=>none
def Kd(P:AJ)(t:AD):Bool:=match P.underlying t with|some .string=>true|_=>false
def EA(P:AJ)(s:AD)(k:Nat):Option Nat:=match P.underlying s with
 | some (.struct fs)=>match fs[k]? with
  | some f=>match P.info? f.type with
   | some i=>if i.size=0 then none else some f.offset
   | none=>none
  | none=>none
 | _=>none
def Sy(P:AJ)(s:AD)(k:Nat):Option (Nat×Option Nat):=match P.underlying s with
 | some (.struct fs)=>match fs[k]? with
  | some f=>if GK P f.type=true then some (f.offset,none) else (I0 P f.type).map fun z=>(f.offset,some z)
  | none=>none
 | _=>none
def CQ(w:Ae)(b o:Nat)(l:List Aj):Prop:=∀ j v,l[j]? = some v→w.cell? ⟨b,o+j,none⟩=some v
theorem SA{w w1:Ae}(h:G w w1){a:Addr}{v:Aj}(hc:w.cell? a=some v):w1.cell? a=some v:=(Below.cell h (World.block_lt_of_cell? w a hc)).trans hc
theorem CQ.A{w w1:Ae}{b o:Nat}{l:List Aj}(h:CQ w b o l)(hg:G w w1):CQ w1 b o l:=fun j v hj=>SA hg (h j v hj)
theorem CQ.part{w:Ae}{b o:Nat}{l:List Aj}(h:CQ w b o l)(i m:Nat):CQ w b (o+i) ((l.drop i).take m):=fun j v hj=>by
 rw [LX] at hj;split at hj;rw [List.getElem?_drop] at hj;have:=h (i+j) v hj;rwa [← Kn] at this;cases hj
theorem CQ.one{w:Ae}{b o:Nat}{l:List Aj}(h:CQ w b o l){i:Nat}{v:Aj}(hi:l[i]? = some v):w.cell? ⟨b,o+i,none⟩=some v:=h i v hi
section
variable {P:AJ} {n:Nat} {σ:List Ce} {c:Prop} {wb:Ae} {ty:AD}
theorem J1{x:Bl}{v:Aj}(h:BI n σ c x v):Db P n σ c wb (.move x) ty v:=.mk fun d pos after g a ha hc w1 _=>by
 simp [execOp,h a ha hc]
theorem Bm{t:Nat}{v:Go.Value}(h:Ex σ t=some (True,v)):∀ wb,Db P n σ c wb (.move (.tmp t)) ty v:=fun _=>J1 (Ab h)
theorem Fj{x:Bl}{v:Aj}(h:BI n σ c x v):Db P n σ c wb (.assign x) ty v:=.mk fun d pos after g a ha hc w1 _=>by
 simp [execOp,h a ha hc]
theorem FZ{x:Bl}{b:Addr}(h:BI n σ c x (.pointer (some b))):Db P n σ c wb (.nilCheck x) ty (.pointer (some b)):=.mk fun d pos after g a ha hc w1 _=>by
 simp [execOp,h a ha hc]
theorem Et{x y:Bl}{g y':Bool}(h:BI n σ c x (.bool g))(h1:BI n σ (c∧g=true) y (.bool y')):Db P n σ c wb (.pick x y (.const (.bool false))) ty (.bool (g&&y')):=.mk fun d pos after gd a ha hc w1 _=>by
 cases g with
 | false=>simp [execOp,h a ha hc,asBool,UL]
 | true=>simp [execOp,h a ha hc,asBool,h1 a ha ⟨hc,rfl⟩]
theorem FR{x y:Bl}{g y':Bool}(h:BI n σ c x (.bool g))(h1:BI n σ (c∧g=false) y (.bool y')):Db P n σ c wb (.pick x (.const (.bool true)) y) ty (.bool (g || y')):=.mk fun d pos after gd a ha hc w1 _=>by
 cases g with
 | true=>simp [execOp,h a ha hc,asBool,UL]
 | false=>simp [execOp,h a ha hc,asBool,h1 a ha ⟨hc,rfl⟩]
theorem AB{s k aa b o:Nat}{x:Bl}(hf:EA P s k=some aa)(h:BI n σ c x (.pointer (some ⟨b,o,none⟩))) :
 Db P n σ c wb (.fieldAddr s x k) ty (.pointer (some ⟨b,o+aa,none⟩)):=.mk fun d pos after gd a ha hc w1 _=>by
 unfold EA at hf;split at hf;rename_i fs hs;split at hf;rename_i f hk;split at hf;rename_i i hi;split at hf;cases hf;rename_i hz;injection hf with hf;subst hf;simp [execOp,h a ha hc,Instr.fieldAt,run_underlying hs,hk,Instr.sureAddr,fieldPlace,sizeOf,typeInfo,hi,hz,Addr.add_lit];cases hf;cases hf;cases hf
theorem kE{t:AD}(ht:GK P t=true){w:Ae}{ad:Addr}{v:Aj}(hc:w.cell? ad=some v):(loadVar t ad).run P w = .ok v w:=by
 unfold GK at ht;split at ht <;> try (cases ht;done)
 rename_i d ab aa hd
 have:(isAgg t).run P w = .ok false w:=by
  simp only [isAgg,Sem.run_bind,run_underlying hd,Hy];rfl
 simp [loadVar,this,hc]
theorem jO{t:AD}{z:Nat}(ht:I0 P t=some z){w:Ae}{b o:Nat}{l:List Aj}(hl:l.length=z)(hc:CQ w b o l) :
 (loadVar t ⟨b,o,none⟩).run P w = .ok (.agg l.toArray) w:=by
 have:(isAgg t).run P w = .ok true w∧(sizeOf t).run P w = .ok z w:=by
  unfold I0 at ht;split at ht;rename_i fs i hs hi;injection ht with ht;constructor;simp only [isAgg,Sem.run_bind,run_underlying hs,Hy];rfl;simp [sizeOf,typeInfo,hi,ht];rename_i fs m i hs hi;injection ht with ht;constructor;simp only [isAgg,Sem.run_bind,run_underlying hs,Hy];rfl;simp [sizeOf,typeInfo,hi,ht];cases ht
 have aa:=run_loadCells_list (P:=P) (w:=w) ⟨b,o,none⟩ l (fun j v hj=>by rw [Addr.add_lit];exact hc j v hj);rw [hl] at aa;simp [loadVar,this.1,this.2,aa]
theorem AZ{t b o:Nat}{x:Bl}{v:Aj}(ht:GK P t=true)(h:BI n σ c x (.pointer (some ⟨b,o,none⟩)))(hc:c→wb.cell? ⟨b,o,none⟩=some v) :
 Db P n σ c wb (.load t x) ty v:=.mk fun d pos after gd a ha aa w1 hg=>by
 simp [execOp,h a ha aa,Instr.loadAt,Instr.sureAddr,kE ht (SA hg (hc aa))]
theorem A8{t b o z:Nat}{x:Bl}{l:List Aj}(ht:I0 P t=some z)(h:BI n σ c x (.pointer (some ⟨b,o,none⟩)))(hl:l.length=z)(hc:c→CQ wb b o l) :
 Db P n σ c wb (.load t x) ty (.agg l.toArray):=.mk fun d pos after gd a ha aa w1 hg=>by
 simp [execOp,h a ha aa,Instr.loadAt,Instr.sureAddr,jO ht hl ((hc aa).A hg)]
theorem Age{s k ab:Nat}{x:Bl}{cs:Array Aj}{v:Aj}(hf:Sy P s k=some (ab,none))(h:BI n σ c x (.agg cs))(hv:cs[ab]? = some v) :
 Db P n σ c wb (.field s x k) ty v:=.mk fun d pos after gd a ha hc w1 _=>by
 unfold Sy at hf;split at hf
 ·rename_i fs hs
  split at hf
  ·rename_i f hk
   split at hf
   ·rename_i aa
    simp only [Option.some.injEq,Prod.mk.injEq,and_true] at hf;subst hf
    have:(isAgg f.type).run P w1 = .ok false w1:=by
     unfold GK at aa;split at aa <;> try (cases aa;done)
     rename_i d ad ac hd;simp only [isAgg,Sem.run_bind,run_underlying hd,Hy];rfl
    simp [execOp,h a ha hc,Instr.field,run_underlying hs,hk,part,asAgg,this,hv]
   · cases hq:I0 P f.type <;> simp [hq] at hf
  · cases hf
 · cases hf
theorem kT{s k aa z:Nat}{x:Bl}{cs:Array Aj}{l:List Aj}(hf:Sy P s k=some (aa,some z))(h:BI n σ c x (.agg cs))(hv:(cs.extract aa (aa+z))=l.toArray) :
 Db P n σ c wb (.field s x k) ty (.agg l.toArray):=.mk fun d pos after gd a ha hc w1 _=>by
 unfold Sy at hf;split at hf;rename_i fs hs;split at hf;rename_i f hk;split at hf;simp at hf
 cases hq:I0 P f.type with
 | none=>simp [hq] at hf
 | some z' =>
  simp only [hq,EY,Option.some.injEq,Prod.mk.injEq] at hf;obtain ⟨rfl,rfl⟩:=hf
  have:(isAgg f.type).run P w1 = .ok true w1∧(sizeOf f.type).run P w1 = .ok z' w1:=by
   unfold I0 at hq;split at hq;rename_i fs i hs hi;injection hq with ht;constructor;simp only [isAgg,Sem.run_bind,run_underlying hs,Hy];rfl;simp [sizeOf,typeInfo,hi,ht];rename_i fs m i hs hi;injection hq with ht;constructor;simp only [isAgg,Sem.run_bind,run_underlying hs,Hy];rfl;simp [sizeOf,typeInfo,hi,ht];cases hq
  simp [execOp,h a ha hc,Instr.field,run_underlying hs,hk,part,asAgg,this.1,this.2,hv]
 cases hf;cases hf
theorem Gr{x:Bl}{i:Nat}{vs:Array Aj}{v:Aj}(h:BI n σ c x (.tuple vs))(hv:vs[i]? = some v):Db P n σ c wb (.extract x i) ty v:=.mk fun d pos after gd a ha hc w1 _=>by
 simp [execOp,h a ha hc,Instr.extract,hv]
theorem XL{x:Int}(h : -9223372036854775808≤x∧x≤9223372036854775807):IntKind.i64.wrap x=x:=by
 rw [IntKind.wrap_i64];omega
theorem RK{op:BinOp}{t u:AD}{x y:Bl}{k:IntKind}{i j r:Int}(h:BI n σ c x (.int k i))(h':BI n σ c y (.int k j))
 (hr:c→Op.intArith op k i j=pure (.int k r)) (ho:op = .add∨op = .sub∨op = .mul):Db P n σ c wb (.binOp op t x y u) ty (.int k r):=.mk fun d pos after gd a ha hc w1 _=>by
 rcases ho with rfl|rfl|rfl <;> simp [execOp,h a ha hc,h' a ha hc,eqGuard_at_int,binOp,hr hc]
theorem Uo{t u:AD}{x y:Bl}{i j:Int}(h:BI n σ c x (.int .i64 i))(h':BI n σ c y (.int .i64 j))(hr:c→-9223372036854775808≤i+j∧i+j≤9223372036854775807) :
  Db P n σ c wb (.binOp .add t x y u) ty (.int .i64 (i+j)):=RK h h' (fun hc=>by simp [Op.intArith,XL (hr hc)]) (.inl rfl)
theorem Jy{t u:AD}{x y:Bl}{i j:Int}(h:BI n σ c x (.int .i64 i))(h':BI n σ c y (.int .i64 j))(hr:c→-9223372036854775808≤i-j∧i-j≤9223372036854775807) :
  Db P n σ c wb (.binOp .sub t x y u) ty (.int .i64 (i-j)):=RK h h' (fun hc=>by simp [Op.intArith,XL (hr hc)]) (.inr (.inl rfl))
theorem lL{t u:AD}{x y:Bl}{k:IntKind}{i j:Int}(h:BI n σ c x (.int k i))(h':BI n σ c y (.int k j)) :
  Db P n σ c wb (.binOp .add t x y u) ty (.int k (k.wrap (i+j))):=RK h h' (fun hc=>by simp [Op.intArith]) (.inl rfl)
theorem kA{t u:AD}{x y:Bl}{k:IntKind}{i j:Int}(h:BI n σ c x (.int k i))(h':BI n σ c y (.int k j)) :
  Db P n σ c wb (.binOp .sub t x y u) ty (.int k (k.wrap (i-j))):=RK h h' (fun hc=>by simp [Op.intArith]) (.inr (.inl rfl))
theorem Aef{t u:AD}{x y:Bl}{k:IntKind}{i j:Int}(h:BI n σ c x (.int k i))(h':BI n σ c y (.int k j)) :
  Db P n σ c wb (.binOp .mul t x y u) ty (.int k (k.wrap (i*j))):=RK h h' (fun hc=>by simp [Op.intArith]) (.inr (.inr rfl))
theorem Gk{t u:AD}{x y:Bl}{k:IntKind}{i j:Int}(h:BI n σ c x (.int k i))(h':BI n σ c y (.int k j)):Db P n σ c wb (.binOp .eql t x y u) ty (.bool (Ac (i=j))):=.mk fun d pos after gd a ha hc w1 _=>by
 simp [execOp,h a ha hc,h' a ha hc,eqGuard_at_int,binOp,Op.intCmp];rfl
theorem IA{t u:AD}{x y:Bl}{k:IntKind}{i j:Int}(h:BI n σ c x (.int k i))(h':BI n σ c y (.int k j)):Db P n σ c wb (.binOp .neq t x y u) ty (.bool (!Ac (i=j))):=.mk fun d pos after gd a ha hc w1 _=>by
 simp [execOp,h a ha hc,h' a ha hc,eqGuard_at_int,binOp,Op.intCmp];rfl
theorem Q5{t u:AD}{x y:Bl}{k:IntKind}{i j:Int}(h:BI n σ c x (.int k i))(h':BI n σ c y (.int k j)):Db P n σ c wb (.binOp .lss t x y u) ty (.bool (Ac (i<j))):=.mk fun d pos after gd a ha hc w1 _=>by
 simp [execOp,h a ha hc,h' a ha hc,eqGuard_at_int,binOp,Op.intCmp]
theorem VB{t u:AD}{x y:Bl}{k:IntKind}{i j:Int}(h:BI n σ c x (.int k i))(h':BI n σ c y (.int k j)):Db P n σ c wb (.binOp .leq t x y u) ty (.bool (Ac (i≤j))):=.mk fun d pos after gd a ha hc w1 _=>by
 simp [execOp,h a ha hc,h' a ha hc,eqGuard_at_int,binOp,Op.intCmp]
theorem QV{t u:AD}{x y:Bl}{k:IntKind}{i j:Int}(h:BI n σ c x (.int k i))(h':BI n σ c y (.int k j)):Db P n σ c wb (.binOp .gtr t x y u) ty (.bool (Ac (j<i))):=.mk fun d pos after gd a ha hc w1 _=>by
 simp [execOp,h a ha hc,h' a ha hc,eqGuard_at_int,binOp,Op.intCmp]
theorem Q8{t u:AD}{x y:Bl}{k:IntKind}{i j:Int}(h:BI n σ c x (.int k i))(h':BI n σ c y (.int k j)):Db P n σ c wb (.binOp .geq t x y u) ty (.bool (Ac (j≤i))):=.mk fun d pos after gd a ha hc w1 _=>by
 simp [execOp,h a ha hc,h' a ha hc,eqGuard_at_int,binOp,Op.intCmp]
theorem uF{t u:AD}{x y:Bl}{i j:Bool}(ht:P.underlying t=some .bool)(h:BI n σ c x (.bool i))(h':BI n σ c y (.bool j)):Db P n σ c wb (.binOp .eql t x y u) ty (.bool (i == j)):=.mk fun d pos after gd a ha hc w1 _=>by
 simp [execOp,h a ha hc,h' a ha hc,eqGuard_at_bool,binOp,Op.equal,Op.maxDepth,run_equalIn_bool' w1 9999 t i j ht]
theorem Aat{t u:AD}{x y:Bl}{i j:Bool}(ht:P.underlying t=some .bool)(h:BI n σ c x (.bool i))(h':BI n σ c y (.bool j)):Db P n σ c wb (.binOp .neq t x y u) ty (.bool (i != j)):=.mk fun d pos after gd a ha hc w1 _=>by
 simp [execOp,h a ha hc,h' a ha hc,eqGuard_at_bool,binOp,Op.equal,Op.maxDepth,run_equalIn_bool' w1 9999 t i j ht];cases i <;> cases j <;> rfl
theorem PD{t:AD}{x:Bl}{i:Bool}(h:BI n σ c x (.bool i)):Db P n σ c wb (.unOp .not t x) ty (.bool (!i)):=.mk fun d pos after gd a ha hc w1 _=>by
 simp [execOp,h a ha hc,Op.unary]
@[reducible] def Cg(l:List UInt8):Aj:=.string ⟨l.toArray⟩
theorem OB{t u:AD}{x y:Bl}{i j:List UInt8}(h:BI n σ c x (Cg i))(h':BI n σ c y (Cg j)):Db P n σ c wb (.binOp .eql t x y u) ty (.bool (Ac (i=j))):=.mk fun d pos after gd a ha hc w1 _=>by
 simp [execOp,h a ha hc,h' a ha hc,eqGuard_at_string,binOp,Op.stringOp];rw [LR];simp
theorem R4{t u:AD}{x y:Bl}{i j:List UInt8}(h:BI n σ c x (Cg i))(h':BI n σ c y (Cg j)):Db P n σ c wb (.binOp .neq t x y u) ty (.bool (!Ac (i=j))):=.mk fun d pos after gd a ha hc w1 _=>by
 simp [execOp,h a ha hc,h' a ha hc,eqGuard_at_string,binOp,Op.stringOp];rw [LR];simp
theorem Os{t:AD}(h:Kd P t=true):P.underlying t=some .string:=by
 unfold Kd at h;split at h;assumption;cases h
theorem Rv{t:AD}{x:Bl}{i:List UInt8}(ht:Kd P t=true)(h:BI n σ c x (Cg i)):Db P n σ c wb (.call { callee:=.builtin .len,args:=#[x],argTypes:=#[t] }) ty (.int .i64 i.length):=.mk fun d pos after gd a ha hc w1 _=>by
 have hr:=run_len_string (P:=P) w1 t ty ⟨i.toArray⟩ (Os ht);simp [execOp,resolve,invoke,builtin,h a ha hc,hr,ByteArray.size,goInt]
theorem OA{t:AD}{x y:Bl}{l:List UInt8}{k:IntKind}{i:Int}(ht:Kd P t=true)(h:BI n σ c x (Cg l))(h':BI n σ c y (.int k i))(hi:c→0≤i∧i<l.length) :
 Db P n σ c wb (.index t x y) ty (.int .u8 (l.getD i.toNat 0).toNat):=.mk fun d pos after gd a ha hc w1 _=>by
 obtain ⟨h0,h1⟩:=hi hc;have aa:i.toNat<l.length:=by omega
 have hg:(⟨l.toArray⟩:ByteArray)[i.toNat]? = some l[i.toNat]:=by
  rw [ByteArray.getElem?_lt' _ _ (by simpa [ByteArray.size] using aa)];rfl
 simp [execOp,h a ha hc,h' a ha hc,Instr.index,asIntOf,run_underlying (Os ht),h0,hg,Kv,aa]
theorem Qw{t:AD}{x y z:Bl}{l:List UInt8}{k k':IntKind}{i j:Int}(ht:Kd P t=true)(h:BI n σ c x (Cg l))(h':BI n σ c y (.int k i))(aa:BI n σ c z (.int k' j))(hi:c→0≤i∧i≤j∧j≤l.length) :
 Db P n σ c wb (.slice t x (some y) (some z) none) ty (Cg ((l.drop i.toNat).take (j.toNat-i.toNat))):=.mk fun d pos after gd a ha hc w1 _=>by
 obtain ⟨h0,h1,h2⟩:=hi hc;have AU:(0≤j∧j≤((⟨l.toArray⟩:ByteArray).size:Int)):=by simp [ByteArray.size];omega
 have e2:(0≤i∧i≤(j.toNat:Int)):=by omega
 simp only [execOp,h a ha hc,h' a ha hc,aa a ha hc,Instr.sliceAt,EY,Gm,Sem.run_bind,run_underlying (Os ht),Hy];simp [Instr.slice,run_underlying (Os ht),Instr.sliceBounds,Instr.sliceBound,asIntOf,AU,e2,ByteArray.extract_mk];intro hh;omega
theorem W8{t:AD}{x y:Bl}{l:List UInt8}{k:IntKind}{i:Int}(ht:Kd P t=true)(h:BI n σ c x (Cg l))(h':BI n σ c y (.int k i))(hi:c→0≤i∧i≤l.length) :
 Db P n σ c wb (.slice t x (some y) none none) ty (Cg (l.drop i.toNat)):=.mk fun d pos after gd a ha hc w1 _=>by
 obtain ⟨h0,h2⟩:=hi hc;have e2:(0≤i∧i≤((⟨l.toArray⟩:ByteArray).size:Int)):=by simp [ByteArray.size];omega
 have e3:(l.drop i.toNat).take ((⟨l.toArray⟩:ByteArray).size-i.toNat)=l.drop i.toNat:=by
  rw [LN];simp [ByteArray.size]
 simp only [execOp,h a ha hc,h' a ha hc,Instr.sliceAt,EY,Gm,Sem.run_bind,run_underlying (Os ht),Hy];simp [Instr.slice,run_underlying (Os ht),Instr.sliceBounds,Instr.sliceBound,asIntOf,e2,ByteArray.extract_mk,e3]
theorem Xx{t:AD}{x z:Bl}{l:List UInt8}{k':IntKind}{j:Int}(ht:Kd P t=true)(h:BI n σ c x (Cg l))(aa:BI n σ c z (.int k' j))(hi:c→0≤j∧j≤l.length) :
 Db P n σ c wb (.slice t x none (some z) none) ty (Cg (l.take j.toNat)):=.mk fun d pos after gd a ha hc w1 _=>by
 obtain ⟨h1,h2⟩:=hi hc;have AU:(0≤j∧j≤((⟨l.toArray⟩:ByteArray).size:Int)):=by simp [ByteArray.size];omega
 simp only [execOp,h a ha hc,aa a ha hc,Instr.sliceAt,EY,Gm,Sem.run_bind,run_underlying (Os ht),Hy];simp [Instr.slice,run_underlying (Os ht),Instr.sliceBounds,Instr.sliceBound,asIntOf,AU,ByteArray.extract_mk]
theorem Ms{t e z aa:Nat}(h:Gf P t=some (e,z,aa)):P.underlying t=some (.slice e)∧∃ i,P.info? e=some i∧i.size=z∧i.bytes=aa:=by
 unfold Gf at h;split at h;rename_i e' he
 cases hi:P.info? e' with
 | none=>simp [hi] at h
 | some i =>
  simp only [hi,EY,Option.some.injEq,Prod.mk.injEq] at h;obtain ⟨rfl,h1,h2⟩:=h;exact ⟨he,i,hi,h1,h2⟩
 cases h
theorem Lp{t e z aa:Nat}{x:Bl}{b:Option Addr}{m q:Nat}(ht:Gf P t=some (e,z,aa))(h:BI n σ c x (.slice b m q)):Db P n σ c wb (.call { callee:=.builtin .len,args:=#[x],argTypes:=#[t] }) ty (.int .i64 m):=.mk fun d pos after gd a ha hc w1 _=>by
 obtain ⟨hu,i,hi,hz,_⟩:=Ms ht;have he:P.underlying t=some (.slice (P.elem t)):=by rw [hu];simp [Program.elem,hu]
 have hr:=run_len_slice (P:=P) w1 t ty b m q he;simp [execOp,resolve,invoke,builtin,h a ha hc,hr,goInt]
theorem KQ{t e z aa:Nat}{x y:Bl}{b o m q:Nat}{k:IntKind}{i:Int}(ht:Gf P t=some (e,z,aa))(h:BI n σ c x (.slice (some ⟨b,o,none⟩) m q))(h':BI n σ c y (.int k i))(hi:c→0≤i∧i<m) :
 Db P n σ c wb (.indexAddr t x y) ty (.pointer (some ⟨b,o+i.toNat*z,none⟩)):=.mk fun d pos after gd a ha hc w1 _=>by
 obtain ⟨hu,i',ab,hz,_⟩:=Ms ht;obtain ⟨h0,h1⟩:=hi hc;simp [execOp,h a ha hc,h' a ha hc,Instr.indexAt,asIntOf,run_underlying hu,h0,h1,sizeOf,typeInfo,ab,hz,Addr.add_lit]
end
def Bz(P:AJ)(f:FuncId)(args:Array Aj)(w:Ae)(R:Aj→Ae→Prop):Prop:=Calls P f args w fun e w'=>∃ v,e = .returned v∧R v w'
theorem Bz.mono{P:AJ}{f:FuncId}{args:Array Aj}{w:Ae}{R R':Aj→Ae→Prop}(h:Bz P f args w R)(hr:∀ v w',R v w'→R' v w'):Bz P f args w R' :=
 Calls.mono h fun _ _ ⟨v,e,k⟩=>⟨v,e,hr v _ k⟩
def Ax(w:Ae)(b:Nat)(e:AD)(l:List Aj):Prop:=w.heap[b]? = some (.cells l.toArray e (0,0))
theorem Ax.lt{w:Ae}{b:Nat}{e:AD}{l:List Aj}(h:Ax w b e l):b<w.heap.size:=by
 rcases KJ b w.heap.size with aa|ab;exact aa;unfold Ax at h;rw [Array.getElem?_eq_none ab] at h;cases h
theorem Ax.row{w:Ae}{b:Nat}{e:AD}{l:List Aj}(h:Ax w b e l):CQ w b 0 l:=fun j v hj=>by
 unfold Ax at h;simp [World.cell?,h,hj]
theorem Ax.y{w:Ae}{b:Nat}{e:AD}{l:List Aj}(h:Ax w b e l){i:Nat}{v:Aj}(hi:l[i]? = some v):w.cell? ⟨b,i,none⟩=some v:=by
 have:=h.row i v hi;rwa [NR] at this
theorem Ax.A{w w1:Ae}{b:Nat}{e:AD}{l:List Aj}(h:Ax w b e l)(hg:G w w1):Ax w1 b e l:=(hg.block h.lt).trans h
theorem Ax.C{w w1:Ae}{b:Nat}{e:AD}{l:List Aj}{row:Option Nat}(h:Ax w b e l)(hg:w.grownBy w1 row)(aa:some b≠row):Ax w1 b e l:=(hg.block b h.lt aa).trans h
structure Ki (w w1:Ae) (b:Nat) (e:AD) (l:List Aj):Prop where
  y:b=w.heap.size
  H:Ax w1 b e l
  g:G w w1
  size:w1.heap.size=w.heap.size+1
theorem Ki.ge{a w w1:Ae}{b:Nat}{e:AD}{l:List Aj}(h:Ki w w1 b e l)(g:G a w):a.heap.size≤b:=by have:=g.size;have:=h.y;omega
theorem Ki.ne{w w1:Ae}{b:Nat}{e:AD}{l:List Aj}(h:Ki w w1 b e l){b':Nat}{e':AD}{l':List Aj}(hB:Ax w b' e' l'):b≠b':=by have:=hB.lt;have:=h.y;omega
theorem MO(w:Ae)(e:AD)(l:List Aj):Ki w (w.alloc (.cells l.toArray e)) w.heap.size e l :=
 ⟨rfl,by unfold Ax;exact heap_alloc_new w _,(Below.refl _ _).alloc (DQ _) _,by simp⟩
theorem G.O{w w1:Ae}(h:G w w1)(row:Option Nat):w.grownBy w1 row:=⟨h.os,h.tape,h.output,h.size,fun k hk _=>h.block hk⟩
section
variable (P:AJ) (Z:List Bf→Act→Ae→Prop) (ops:List Oper) (cl:List Nat) (lv:List Bool) (W0:Ae) (n:Nat) (K:Act→Ae→Prop)
structure BK (k:Nat) (l:List Oper) (σ:List Ce) (w:Ae):Prop where mk ::
  h:(∀ j o,l[j]? = some o→ops.toArray[k+j]? = some o)→∀ a,Cl n σ a→FL P Z ops.toArray (Bw cl) (JN lv) W0 K (List.range' k l.length) a w
end
section
variable {P:AJ} {Z:List Bf→Act→Ae→Prop} {ops:List Oper} {cl:List Nat} {lv:List Bool} {W0:Ae} {n:Nat} {K:Act→Ae→Prop} {k:Nat} {rest:List Oper} {σ:List Ce} {w:Ae} {d:Nat} {op:Op} {ty:AD} {pos:String} {after:Array Edge} {v:Aj}
instance {l:List Oper}:CoeFun (BK P Z ops cl lv W0 n K k l σ w) fun _=>(∀ j o,l[j]? = some o→ops.toArray[k+j]? = some o)→∀ a,Cl n σ a→FL P Z ops.toArray (Bw cl) (JN lv) W0 K (List.range' k l.length) a w:=⟨BK.h⟩
theorem Ai(h:∀ a,Cl n σ a→K a w):BK P Z ops cl lv W0 n K k [] σ w:=.mk fun _ a ha=>h a ha
theorem EV{l:List Oper}(τ:List Ce)(hs:H0 τ σ)(h:BK P Z ops cl lv W0 n K k l τ w):BK P Z ops cl lv W0 n K k l σ w:=.mk fun hl a ha=>h hl a (ha.sub hs)
theorem Mh{l:List Oper}{o:Oper}(hl:∀ j o',(o::l)[j]? = some o'→ops.toArray[k+j]? = some o'):ops.toArray[k]? = some o∧∀ j o',l[j]? = some o'→ops.toArray[k+1+j]? = some o' :=
 ⟨hl 0 o rfl,fun j o' h=>by have:=hl (j+1) o' h;rwa [show k+(j+1)=k+1+j by omega] at this⟩
theorem R9{d:Option Nat}{y:Nat→Option Bool}:CY ⟨d,op,ty,pos,after,none⟩ y=true:=rfl
theorem FG(hb:(Ao (Bw cl k) 0&&JN lv k&&AA d n)=true)(hr:Db P n σ True w op ty v)(h:BK P Z ops cl lv W0 n K (k+1) rest ((d,True,v) :: σ) w) :
 BK P Z ops cl lv W0 n K k (⟨some d,op,ty,pos,after,none⟩::rest) σ w:=.mk fun hl a ha=>by
 obtain ⟨h0,h1⟩:=Mh hl;simp only [A2] at hb;obtain ⟨⟨hc,hv⟩,hd⟩:=hb;rw [Cq,Du];refine ⟨_,h0,?_⟩;have hc:=Bu hc;rw [CO (.inl hc)];refine ⟨v,fun _ w1 hg=>?_,(fun hn=>by cases hn),h h1 _ (ha.put hd (fun _=>rfl) (fun hn=>absurd Cc hn))⟩;have hg:=hg.resolve_left O;rw [CO hv] at hg;exact hr _ _ _ _ a ha Cc w1 hg
theorem JS(hb:(Ao (Bw cl k) 0 && !JN lv k&&AA d n)=true)(hr:Db P n σ True W0 op ty v)(h:BK P Z ops cl lv W0 n K (k+1) rest ((d,True,v) :: σ) w) :
 BK P Z ops cl lv W0 n K k (⟨some d,op,ty,pos,after,none⟩::rest) σ w:=.mk fun hl a ha=>by
 obtain ⟨h0,h1⟩:=Mh hl;simp only [A2,Bool.not_eq_true'] at hb;obtain ⟨⟨hc,hv⟩,hd⟩:=hb;rw [Cq,Du];refine ⟨_,h0,?_⟩;have hc:=Bu hc;rw [CO (.inl hc)];refine ⟨v,fun _ w1 hg=>?_,(fun hn=>by cases hn),h h1 _ (ha.put hd (fun _=>rfl) (fun hn=>absurd Cc hn))⟩;have hg:=hg.resolve_left O;rw [CN (by rw [hv];simp)] at hg;exact hr _ _ _ _ a ha Cc w1 hg
theorem OL{g t:Nat}{want b:Bool}{c0:Prop}{a:Act}(aa:((ops.toArray[g]?).bind (·.dst))=some t)(ab:Ex σ t=some (c0,.bool b))(ha:Cl n σ a){d:Option Nat} :
 CY ⟨d,op,ty,pos,after,some (g,want)⟩ (yielded ops.toArray a.tmps)=true↔c0∧b=want:=by
 obtain ⟨h1,h2⟩:=ha.2.2 t c0 (.bool b) ab;unfold CY yielded;simp only [aa,Option.bind_some];by_cases hc:c0;rw [h1 hc];simp [hc];rw [h2 hc];simp [hc,undef]
open Classical in
theorem BQ{g t:Nat}{want b:Bool}{c0:Prop}(hb:(Ao (Bw cl k) 0&&JN lv k&&AA d n)=true)(ac:((ops.toArray[g]?).bind (·.dst))=some t)(ab:Ex σ t=some (c0,.bool b))
 (hr:Db P n σ (c0∧b=want) w op ty v) (h:BK P Z ops cl lv W0 n K (k+1) rest ((d,c0∧b=want,v) :: σ) w) :
 BK P Z ops cl lv W0 n K k (⟨some d,op,ty,pos,after,some (g,want)⟩::rest) σ w:=.mk fun hl a ha=>by
 obtain ⟨h0,h1⟩:=Mh hl;simp only [A2] at hb;obtain ⟨⟨hc,hv⟩,hd⟩:=hb;rw [Cq,Du];refine ⟨_,h0,?_⟩;have hc:=Bu hc;rw [CO (.inl hc)];have hw:=OL (op:=op) (ty:=ty) (pos:=pos) (after:=after) (want:=want) (d:=some d) ac ab ha;refine ⟨if c0∧b=want then v else undef,fun aa w1 hg=>?_,fun hn=>?_,h h1 _ (ha.put hd (fun hh=>CO hh) (fun hh=>CN hh))⟩;have hg:=hg.resolve_left O;rw [CO hv] at hg;rw [CO (hw.1 aa)];exact hr _ _ _ _ a ha (hw.1 aa) w1 hg;rw [CN (fun hh=>by rw [hw.2 hh] at hn;cases hn)]
open Classical in
theorem AR(hb:(Ao (Bw cl k) 3&&AA d n)=true)(hr:∀ wb,Db P n σ True wb op ty v)(h:BK P Z ops cl lv W0 n K (k+1) rest ((d,True,v) :: σ) w) :
 BK P Z ops cl lv W0 n K k (⟨some d,op,ty,pos,after,none⟩::rest) σ w:=.mk fun hl a ha=>by
 obtain ⟨h0,h1⟩:=Mh hl;simp only [A2] at hb;rw [Cq,Du];refine ⟨_,h0,?_⟩;rw [CO (.inr (Bu hb.1))];exact ⟨v,fun _ w1 _=>hr w1 _ _ _ _ a ha Cc w1 (G.refl _),(fun hn=>by cases hn),h h1 _ (ha.put hb.2 (fun _=>rfl) (fun hn=>absurd Cc hn))⟩
open Classical in
theorem Ay{g t:Nat}{want b:Bool}{c0:Prop}(hb:(Ao (Bw cl k) 3&&AA d n)=true)(ac:((ops.toArray[g]?).bind (·.dst))=some t)(ab:Ex σ t=some (c0,.bool b))
 (hr:∀ wb,Db P n σ (c0∧b=want) wb op ty v) (h:BK P Z ops cl lv W0 n K (k+1) rest ((d,c0∧b=want,v) :: σ) w) :
 BK P Z ops cl lv W0 n K k (⟨some d,op,ty,pos,after,some (g,want)⟩::rest) σ w:=.mk fun hl a ha=>by
 obtain ⟨h0,h1⟩:=Mh hl;simp only [A2] at hb;rw [Cq,Du];refine ⟨_,h0,?_⟩;rw [CO (.inr (Bu hb.1))];have hw:=OL (op:=op) (ty:=ty) (pos:=pos) (after:=after) (want:=want) (d:=some d) ac ab ha;refine ⟨if c0∧b=want then v else undef,fun aa w1 _=>?_,fun hn=>?_,h h1 _ (ha.put hb.2 (fun hh=>CO hh) (fun hh=>CN hh))⟩;rw [CO (hw.1 aa)];exact hr w1 _ _ _ _ a ha (hw.1 aa) w1 (G.refl _);rw [CN (fun hh=>by rw [hw.2 hh] at hn;cases hn)]
def X0(P:AJ)(n:Nat)(σ:List Ce)(c:Prop)(w:Ae)(op:Op)(ty:AD)(v:Aj)(w':Ae):Prop :=
 ∀ (d:Option Tmp) (pos:String) (after:Array Edge) (g:Option (Nat×Bool)) (a:Act),Cl n σ a→c→(execOp a.eval ⟨d,op,ty,pos,after,g⟩).run P w = .ok (.value v) w'
def yK(P:AJ)(n:Nat)(σ:List Ce)(c:Prop)(w:Ae)(op:Op)(ty:AD)(w':Ae):Prop :=
 ∀ (d:Option Tmp) (pos:String) (after:Array Edge) (g:Option (Nat×Bool)) (a:Act),Cl n σ a→c→(execOp a.eval ⟨d,op,ty,pos,after,g⟩).run P w = .ok .skip w'
def OU(P:AJ)(n:Nat)(σ:List Ce)(c:Prop)(w:Ae)(op:Op)(ty:AD)(f:FuncId)(args:Array Aj):Prop :=
 ∀ (d:Option Tmp) (pos:String) (after:Array Edge) (g:Option (Nat×Bool)) (a:Act),Cl n σ a→c→(execOp a.eval ⟨d,op,ty,pos,after,g⟩).run P w = .ok (.enter f args) w
theorem Oa{w':Ae}(hb:(!Ao (Bw cl k) 0 && !Ao (Bw cl k) 3&&AA d n)=true)(hr:X0 P n σ True w op ty v w')(hg:Bw cl k=1→G w w')(h:BK P Z ops cl lv W0 n K (k+1) rest ((d,True,v) :: σ) w') :
 BK P Z ops cl lv W0 n K k (⟨some d,op,ty,pos,after,none⟩::rest) σ w:=.mk fun hl a ha=>by
 obtain ⟨h0,h1⟩:=Mh hl;simp only [A2,Bool.not_eq_true'] at hb;rw [Cq,Du];refine ⟨_,h0,?_⟩;rw [CN (fun he=>by rcases he with he|he <;> rw [he] at hb <;> simp at hb),CO R9]
 exact .inl ⟨v,w',hr _ _ _ _ a ha Cc,fun hh=>hg (by simpa using hh),h h1 _ (ha.put hb.2 (fun _=>rfl) (fun hn=>absurd Cc hn))⟩
theorem iA{w':Ae}(hb:Ao (Bw cl k) 2=true)(hr:yK P n σ True w op ty w')(h:BK P Z ops cl lv W0 n K (k+1) rest σ w') :
 BK P Z ops cl lv W0 n K k (⟨none,op,ty,pos,after,none⟩::rest) σ w:=.mk fun hl a ha=>by
 obtain ⟨h0,h1⟩:=Mh hl;have hc:=Bu hb;rw [Cq,Du];refine ⟨_,h0,?_⟩;rw [CN O,CO R9];exact .inr (.inl ⟨w',hr _ _ _ _ a ha Cc,fun hh=>by rw [hc] at hh;simp at hh,h h1 _ ha⟩)
theorem EB{f:FuncId}{args:Array Aj}{R:Aj→Ae→Prop}(hb:(!Ao (Bw cl k) 0 && !Ao (Bw cl k) 3&&AA d n)=true)(hr:OU P n σ True w op ty f args)(hC:Bz P f args w R)
 (h:∀ v w',R v w'→(Bw cl k=1→G w w')∧BK P Z ops cl lv W0 n K (k+1) rest ((d,True,v) :: σ) w') :
 BK P Z ops cl lv W0 n K k (⟨some d,op,ty,pos,after,none⟩::rest) σ w:=.mk fun hl a ha=>by
 obtain ⟨h0,h1⟩:=Mh hl;simp only [A2,Bool.not_eq_true'] at hb;rw [Cq,Du];refine ⟨_,h0,?_⟩;rw [CN (fun he=>by rcases he with he|he <;> rw [he] at hb <;> simp at hb),CO R9]
 refine .inr (.inr (.inl ⟨f,args,hr _ _ _ _ a ha Cc,Calls.mono hC fun e w' ⟨v,he,hv⟩=>.inl ?_⟩));obtain ⟨q1,q2⟩:=h v w' hv;exact ⟨v,he,fun hh=>q1 (by simpa using hh),q2 h1 _ (ha.put hb.2 (fun _=>rfl) (fun hn=>absurd Cc hn))⟩
theorem F0{f:FuncId}{args:Array Aj}(hb:(!Ao (Bw cl k) 0 && !Ao (Bw cl k) 3&&AA d n)=true)(hr:OU P n σ True w op ty f args)(hC:Bz P f args w fun u w'=>u=v∧G w w')
  (h:∀ w',G w w'→BK P Z ops cl lv W0 n K (k+1) rest ((d,True,v) :: σ) w') :
  BK P Z ops cl lv W0 n K k (⟨some d,op,ty,pos,after,none⟩::rest) σ w :=
 EB hb hr hC fun u w' ⟨hu,hg⟩=>⟨fun _=>hg,by subst hu;exact h w' hg⟩
theorem Ff{g t:Nat}{want b:Bool}{c0:Prop}{f:FuncId}{args:Array Aj}(hb:(!Ao (Bw cl k) 0 && !Ao (Bw cl k) 3&&AA d n)=true)(ab:((ops.toArray[g]?).bind (·.dst))=some t)(aa:Ex σ t=some (c0,.bool b))
 (hr:c0∧b=want→OU P n σ (c0∧b=want) w op ty f args) (hC:c0∧b=want→Bz P f args w fun u w'=>u=v∧G w w')
 (h:∀ w',G w w'→BK P Z ops cl lv W0 n K (k+1) rest ((d,c0∧b=want,v) :: σ) w') :
 BK P Z ops cl lv W0 n K k (⟨some d,op,ty,pos,after,some (g,want)⟩::rest) σ w:=.mk fun hl a ha=>by
 obtain ⟨h0,h1⟩:=Mh hl;simp only [A2,Bool.not_eq_true'] at hb;rw [Cq,Du];have hw:=OL (op:=op) (ty:=ty) (pos:=pos) (after:=after) (want:=want) (d:=some d) ab aa ha;refine ⟨_,h0,?_⟩;rw [CN (fun he=>by rcases he with he|he <;> rw [he] at hb <;> simp at hb)]
 by_cases hh:c0∧b=want;rw [CO (hw.2 hh)];refine .inr (.inr (.inl ⟨f,args,hr hh _ _ _ _ a ha hh,Calls.mono (hC hh) fun e w' ⟨u,he,hu,hg⟩=>.inl ?_⟩));subst hu;exact ⟨u,he,fun _=>hg,h w' hg h1 _ (ha.put hb.2 (fun _=>rfl) (fun hn=>absurd hh hn))⟩;rw [CN (fun hq=>hh (hw.1 hq))];exact h w (G.refl w) h1 _ (ha.put hb.2 (fun hq=>absurd hq hh) (fun _=>rfl))
theorem Jr{aa:AD}{x:Bl}{u:Aj}{l:List Aj}(hb:(!Ao (Bw cl k) 0 && !Ao (Bw cl k) 3&&AA d n)=true)(hx:BI n σ True x u)(hl:u.cells=l.toArray)
  (h:∀ b w1,Ki w w1 b aa l→BK P Z ops cl lv W0 n K (k+1) rest ((d,True,.pointer (some ⟨b,0,none⟩)) :: σ) w1) :
  BK P Z ops cl lv W0 n K k (⟨some d,.box aa x,ty,pos,after,none⟩::rest) σ w :=
 Oa hb (w':=w.alloc (.cells l.toArray aa)) (fun d pos after g a ha _=>by simp [execOp,hx a ha Cc,Instr.box,newVar,newRow,hl]) (fun _=>(MO w aa l).g) (h _ _ (MO w aa l))
def Gh(P:AJ)(t:AD):Option Aj:=match P.info? t with|some i=>i.zero|none=>none
theorem PC{t:AD}{z:Aj}(h:Gh P t=some z):∃ i,P.info? t=some i∧i.zero=some z:=by
 unfold Gh at h;split at h;exact ⟨_,by assumption,h⟩;cases h
theorem En{aa:AD}{z:Aj}{l:List Aj}(hb:(!Ao (Bw cl k) 0 && !Ao (Bw cl k) 3&&AA d n)=true)(hz:Gh P aa=some z)(hl:z.cells=l.toArray)
 (h:∀ b w1,Ki w w1 b aa l→BK P Z ops cl lv W0 n K (k+1) rest ((d,True,.pointer (some ⟨b,0,none⟩)) :: σ) w1) :
 BK P Z ops cl lv W0 n K k (⟨some d,.alloc aa,ty,pos,after,none⟩::rest) σ w:=by
 obtain ⟨i,hi,ab⟩:=PC hz;exact Oa hb (w':=w.alloc (.cells l.toArray aa)) (fun d pos after g a ha _=>by simp [execOp,Instr.alloc,zeroValue,typeInfo,hi,ab,newVar,newRow,hl]) (fun _=>(MO w aa l).g) (h _ _ (MO w aa l))
def Mg(n:Nat)(σ:List Ce)(c:Prop)(ps:Array (Nat×Bl))(vs:List (Nat×Aj)):Prop:=∀ a,Cl n σ a→c→(ps.map fun p=>(p.1,a.eval p.2)).toList=vs
theorem IR{n:Nat}{σ:List Ce}{c:Prop}:Mg n σ c #[] []:=fun _ _ _=>by simp
theorem J6{n:Nat}{σ:List Ce}{c:Prop}{i:Nat}{x:Bl}{u:Aj}{ps:List (Nat×Bl)}{vs:List (Nat×Aj)}(h:BI n σ c x u)(k:Mg n σ c ps.toArray vs):Mg n σ c ((i,x)::ps).toArray ((i,u)::vs):=fun a ha hc=>by
 have:=k a ha hc;simp only [IH,List.toList_toArray] at this ⊢;rw [GN,this,h a ha hc]
def Ll(P:AJ)(t:AD):Option (List (Nat×Nat)):=match P.underlying t with
 | some (.struct fs)=>fs.toList.mapM fun f=>(P.info? f.type).map fun i=>(f.offset,i.size)
 | _=>none
theorem Yr(w:Ae):∀ (fs:List Field) (ps:List (Nat×Nat)),(fs.mapM fun f=>(P.info? f.type).map fun i=>(f.offset,i.size))=some ps→
  (fs.mapM (fun f=>(do pure (f.offset,← sizeOf f.type):Sem (Nat×Nat)))).run P w = .ok ps w
 | [],ps,h=>by simp at h;subst h;rfl
 | f::fs,ps,h=>by
  rw [Iz] at h
  cases hi:P.info? f.type with
  | none=>rw [hi] at h;simp at h
  | some i =>
   rw [hi] at h
   cases hr:(fs.mapM fun f=>(P.info? f.type).map fun i=>(f.offset,i.size)) with
   | none=>rw [hr] at h;simp at h
   | some qs =>
    rw [hr] at h;simp at h;subst h;have:=Yr w fs qs hr;rw [Iz];simp [sizeOf,typeInfo,hi] at this ⊢;rw [this];simp
def Ng(pl:Nat→Option (Nat×Nat)):List Aj→List (Nat×Aj)→Option (List Aj)
 | cs,[]=>some cs
 | cs,(i,v)::rest=>match pl i with
  | none=>none
  | some (off,z)=>if Ao v.cells.toList.length z&&Dr (off+z) cs.length then Ng pl (cs.take off++v.cells.toList++cs.drop (off+z)) rest else none
theorem Y5:∀ (vs:List Aj) (off i:Nat) (cs:List Aj),off+i+vs.length≤cs.length→
  (vs.zipIdx i).foldl (fun (cs:Array Aj) (p:Aj×Nat)=>cs.setIfInBounds (off+p.2) p.1) cs.toArray=(cs.take (off+i)++vs++cs.drop (off+i+vs.length)).toArray
 | [],off,i,cs,_=>by simp
 | v::vs,off,i,cs,h=>by
  simp only [Cq] at h;rw [List.zipIdx_cons,List.foldl_cons];have e:(cs.toArray.setIfInBounds (off+i) v)=(cs.set (off+i) v).toArray:=by simp
  simp only [e];rw [Y5 vs off (i+1) _ (by simp;omega)];have aa:off+i<cs.length:=by omega
  have AU:(cs.set (off+i) v).take (off+(i+1))=cs.take (off+i)++[v]:=by
   rw [show off+(i+1)=(off+i)+1 by omega,List.take_add_one,jM (DQ _)];simp [aa]
  have e2:(cs.set (off+i) v).drop (off+(i+1)+vs.length)=cs.drop (off+i+(v::vs).length):=by
   rw [fY O];congr 1;simp;omega
  rw [AU,e2];simp [GZ]
theorem TR(pl:Nat→Option (Nat×Nat)):∀ (vs:List (Nat×Aj)) (cs l:List Aj),Ng pl cs vs=some l→Instr.fill pl cs.toArray vs=some l.toArray
 | [],cs,l,h=>by injection h with h;subst h;rfl
 | (i,v)::rest,cs,l,h=>by
  unfold Ng at h;unfold Instr.fill;split at h;cases h;rename_i aa z hp;split at h;rename_i hc;simp only [A2] at hc;have h1:=Bu hc.1;have h2:=CR hc.2;simp only [hp];have h3:v.cells.size=z:=by simpa using h1
  rw [CN (by simp [h3];omega)]
  have e:v.cells.zipIdx.foldl (fun cs x=>cs.setIfInBounds (aa+x.2) x.1) cs.toArray=(cs.take aa++v.cells.toList++cs.drop (aa+z)).toArray:=by
   have:=Y5 v.cells.toList aa 0 cs (by rw [h1];omega);rw [h1] at this;simp only [Nat.add_zero] at this;rw [← this,← Array.foldl_toList,Array.toList_zipIdx]
  have e':=TR pl rest _ l h;rw [← e] at e';exact e';cases h
theorem Jj{c:Prop}{wb:Ae}{t:AD}{ps:Array (Nat×Bl)}{vs:List (Nat×Aj)}{pl:List (Nat×Nat)}{z:Aj}{zl:List Aj}(l:List Aj)(hz:Gh P t=some z)(af:z.cells=zl.toArray)(hp:Ll P t=some pl)(hx:Mg n σ c ps vs)
 (hf:Ng (fun (i:Nat)=>pl[i]?) zl vs=some l):Db P n σ c wb (.build t ps) ty (.agg l.toArray):=.mk fun d pos after g a ha hc w1 _=>by
 have hf:=TR _ _ _ _ hf;rw [← af] at hf;obtain ⟨i,hi,ag⟩:=PC hz;unfold Ll at hp;split at hp;rename_i fs ad;have ac:=Yr (P:=P) w1 fs.toList pl hp
 have ab:(fs.mapM (fun f=>(do pure (f.offset,← sizeOf f.type):Sem (Nat×Nat)))).run P w1 = .ok pl.toArray w1:=by
  rw [IM];simp only [Sem.run_map,ac,Hy]
 have ae:=hx a ha hc;simp only [execOp,Instr.build,Sem.run_bind,zeroValue,typeInfo,run_program,Hy,hi,ag,Sem.run_pure,run_underlying ad];rw [ab];simp only [Hy];have aa:(fun (x:Nat)=>pl.toArray[x]?)=(fun (i:Nat)=>pl[i]?):=by funext i;simp
 rw [aa,ae,hf];rfl;cases hp
def Oq(z:Nat):Nat→List (Nat×Aj)→Option (List Aj)
 | _,[]=>some []
 | k,(i,v)::rest=>if Ao i k&&Ao v.cells.toList.length z then (Oq z (k+1) rest).map (v.cells.toList ++ ·) else none
theorem UR(z:Nat):∀ (vs:List (Nat×Aj)) (k:Nat) (done cs l:List Aj),Oq z k vs=some l→done.length=k*z→cs.length=(k+vs.length)*z→cs.take (k*z)=done→
  Ng (fun i=>some (i*z,z)) cs vs=some (done++l)
 | [],k,done,cs,l,h,h1,h2,h3=>by
  injection h with h;subst h;unfold Ng;rw [← h3,Lo,LN (by rw [h2];simp)]
 | (i,v)::rest,k,done,cs,l,h,h1,h2,h3=>by
  unfold Oq at h;split at h
  ·rename_i hc
   simp only [A2] at hc;have AU:=Bu hc.1;have e2:=Bu hc.2;subst AU
   cases hr:Oq z (i+1) rest with
   | none=>rw [hr] at h;cases h
   | some l' =>
    rw [hr] at h;injection h with h;subst h;unfold Ng;simp only [Cq] at h2;have hm:(i+1)*z=i*z+z:=by rw [Ju,Nat.one_mul]
    have aa:(i+(rest.length+1))*z=i*z+z+rest.length*z:=by rw [Ju,Ju,Nat.one_mul];omega
    have ab:i*z+z≤cs.length:=by rw [h2,aa];omega
    dsimp only;rw [CO (by rw [A2];exact ⟨hc.2,fM ab⟩)]
    have:=UR z rest (i+1) (done++v.cells.toList) (cs.take (i*z)++v.cells.toList++cs.drop (i*z+z)) l' hr (by rw [E8,h1,e2,hm]) (by
     rw [E8,E8,e2,Ha,List.length_drop,h2,aa,Ju,hm];omega) (by
     rw [hm,List.take_append_of_le_length (by rw [E8,e2,Ha];omega),LN (by rw [E8,e2,Ha];omega),h3])
    rw [this,GZ]
  · cases h
theorem Fe{t e z ac m:Nat}{ps:Array (Nat×Bl)}{vs:List (Nat×Aj)}{zv:Aj}(l:List Aj)(hb:(!Ao (Bw cl k) 0 && !Ao (Bw cl k) 3&&AA d n)=true)(ht:Gf P t=some (e,z,ac))(hz:Gh P e=some zv)
 (hx:Mg n σ True ps vs) (hm:(Dr (m*z) 16777216 && !Ao (m*z) 0&&Ao vs.length m)=true) (hf:Oq z 0 vs=some l)
 (h:∀ b w1,Ki w w1 b e l→BK P Z ops cl lv W0 n K (k+1) rest ((d,True,.slice (some ⟨b,0,none⟩) m m) :: σ) w1) :
 BK P Z ops cl lv W0 n K k (⟨some d,.buildSlice t m ps,ty,pos,after,none⟩::rest) σ w:=by
 obtain ⟨hu,i,hi,ae,_⟩:=Ms ht;obtain ⟨i',ad,ai⟩:=PC hz;obtain rfl:i=i':=EM (hi.symm.trans ad);simp only [A2,Bool.not_eq_true'] at hm;have af:¬ (m*z>2 ^ 24):=by have:=CR hm.1.1;omega
 have ag:¬ (m*z=0):=by intro he;rw [he] at hm;simp at hm
 have ab:=Bu hm.2
 have aa:Instr.fill (fun i=>some (i*z,z)) ((Array.range (m*z)).map (zv.cells[· % zv.cells.size]!)) vs=some l.toArray:=by
  have h1:=UR z vs 0 [] ((Array.range (m*z)).map (zv.cells[· % zv.cells.size]!)).toList l hf BR (by simp [ab]) BR;have:=TR _ _ _ _ h1;rwa [NP] at this
 refine Oa hb (w':=w.alloc (.cells l.toArray e)) (fun d pos after g a ha _=>?_) (fun _=>(MO w e l).g) (h _ _ (MO w e l));have ah:=hx a ha Cc;simp only [execOp,Instr.buildSlice,Sem.run_bind,run_underlying hu,Hy,sizeOf,typeInfo,run_program,hi,Sem.run_pure,ae,CN af,CN ag,zeroValue,ai];rw [ah,aa];simp [newRow]
def CD(P:AJ)(f:FuncId):Bool:=match P.funcs[f]? with|some fn=>!(fn.name == "runtime.NumGoroutine")&&fn.body.isSome|none=>false
def Kq(n:Nat)(σ:List Ce)(c:Prop)(xs:List Bl)(vs:List Aj):Prop:=∀ a,Cl n σ a→c→xs.map a.eval=vs
theorem DC{n:Nat}{σ:List Ce}{c:Prop}:Kq n σ c [] []:=fun _ _ _=>rfl
theorem CM{n:Nat}{σ:List Ce}{c:Prop}{x:Bl}{u:Aj}{xs:List Bl}{vs:List Aj}(h:BI n σ c x u)(k:Kq n σ c xs vs):Kq n σ c (x::xs) (u::vs):=fun a ha hc=>by
 rw [GN,h a ha hc,k a ha hc]
theorem Sq{f:FuncId}(hf:CD P f=true)(args:Array Aj)(w:Ae):(callFunc f args).run P w = .ok (.enter f args) w:=by
 unfold CD at hf;split at hf;rename_i fn hfn;simp only [A2,Bool.not_eq_true'] at hf;obtain ⟨h1,h2⟩:=hf;have h3:¬ fn.body=none:=by intro hb;rw [hb] at h2;cases h2
 have h4:¬ fn.name = "runtime.NumGoroutine" := by simpa using h1
 simp [callFunc,hfn,h4,h3];cases hf
theorem BF{c:Prop}{x:Bl}{f:FuncId}{fs cs:Array Aj}{xs:List Bl}{vs:List Aj}{ats:Array AD}{args:Array Aj}(hf:CD P f=true)(h:BI n σ c x (.func (.func f) fs cs))(hx:Kq n σ c xs vs)
 (ha:fs++vs.toArray++cs=args):OU P n σ c w (.call { callee:=.value x,args:=xs.toArray,argTypes:=ats }) ty f args:=fun d pos after g a hk hc=>by
 have h1:=hx a hk hc;have h2:xs.toArray.map a.eval=vs.toArray:=by rw [IH,h1]
 simp only [execOp,resolve,h a hk hc,h2,Deferred.ofValue,Sem.run_bind,Sem.run_pure,Hy,invoke,ha];exact Sq hf args w
def M6(l:List Aj):Bool:=l.all (·.oneCell')
theorem eA{l:List Aj}(h:M6 l=true):∀ u∈l,u.oneCell'=true:=fun u hu=>CW.1 h u hu
theorem kU{b o:Nat}{e:AD}{l:List Aj}{v:Aj}(hB:Ax w b e l)(ho:o<l.length)(hv:v.oneCell'=true) :
 (store ⟨b,o,none⟩ v).run P w = .ok () (w.setCell ⟨b,o,none⟩ v)∧Ax (w.setCell ⟨b,o,none⟩ v) b e (l.set o v)∧w.grownBy (w.setCell ⟨b,o,none⟩ v) (some b):=by
 have hc:w.cell? ⟨b,o,none⟩=some l[o]:=hB.y (List.getElem?_eq_getElem ho);have ab:w.frozen? ⟨b,o,none⟩=false:=by unfold Ax at hB;simp [World.frozen?,hB]
 refine ⟨?_,?_,⟨rfl,rfl,rfl,by simp,fun k hk aa=>Below.heap_setCell _ _ _ _ (fun he=>aa (by rw [he]))⟩⟩;rw [run_store P w _ v _ hv,hc];simp [ab];unfold Ax at hB ⊢;simp [World.setCell,Array.getElem?_modify,hB]
theorem VI{a b c:Ae}{row:Option Nat}(h:a.grownBy b row)(k:b.grownBy c row):a.grownBy c row :=
 ⟨k.os.trans h.os,k.tape.trans h.tape,k.output.trans h.output,Nat.le_trans h.size k.size,fun i hi hn=>(k.block i (Nat.lt_of_lt_of_le hi h.size) hn).trans (h.block i hi hn)⟩
theorem jD{b e:Nat}:∀ (vs:List Aj) (o i:Nat) (l:List Aj) (w:Ae),Ax w b e l→o+i+vs.length≤l.length→(∀ u∈vs,u.oneCell'=true)→
  ∃ w',(storeCells ⟨b,o,none⟩ vs i).run P w = .ok () w'∧Ax w' b e (l.take (o+i)++vs++l.drop (o+i+vs.length))∧w.grownBy w' (some b)∧w'.heap.size=w.heap.size
 | [],o,i,l,w,hB,_,_=>⟨w,rfl,by simpa using hB,⟨rfl,rfl,rfl,DQ _,fun _ _ _=>rfl⟩,rfl⟩
 | v::vs,o,i,l,w,hB,hl,h1=>by
  simp only [Cq] at hl;obtain ⟨q1,q2,q3⟩:=kU (P:=P) hB (o:=o+i) O (h1 v CC);obtain ⟨w',r1,r2,r3,r4⟩:=jD vs o (i+1) (l.set (o+i) v) _ q2 (by simp;omega) (fun u hu=>h1 u (D4 _ hu));refine ⟨w',?_,?_,VI q3 r3,by rw [r4];simp⟩;simp only [storeCells,Sem.run_bind,Addr.add_lit,q1,Hy];exact r1;have aa:o+i<l.length:=by omega
  have AU:(l.set (o+i) v).take (o+(i+1))=l.take (o+i)++[v]:=by
   rw [show o+(i+1)=(o+i)+1 by omega,List.take_add_one,jM (DQ _)];simp [aa]
  have e2:(l.set (o+i) v).drop (o+(i+1)+vs.length)=l.drop (o+i+(v::vs).length):=by
   rw [fY O];congr 1;simp;omega
  rw [AU,e2] at r2;simpa [GZ] using r2
theorem Df{t:AD}{x y:Bl}{b o z:Nat}{e:AD}{u:Aj}{l vs:List Aj}(hb:Ao (Bw cl k) 2=true)(hs:Im P t=some z)(hx:BI n σ True x (.pointer (some ⟨b,o,none⟩)))(hy:BI n σ True y u)
 (hu:u.cells=vs.toArray) (hz:vs.length=z) (hB:Ax w b e l) (aa:Dr (o+vs.length) l.length=true) (h1:M6 vs=true)
 (h:∀ w1,w.grownBy w1 (some b)→w1.heap.size=w.heap.size→Ax w1 b e (l.take o++vs++l.drop (o+vs.length))→BK P Z ops cl lv W0 n K (k+1) rest σ w1) :
 BK P Z ops cl lv W0 n K k (⟨none,.store t x y,ty,pos,after,none⟩::rest) σ w:=by
 obtain ⟨w1,r1,r2,r3,r4⟩:=jD (P:=P) vs o 0 l w hB (by have:=CR aa;omega) (eA h1);refine iA hb (w':=w1) (fun d pos after g a ha _=>?_) (h w1 r3 r4 (by simpa using r2));unfold Im at hs;obtain ⟨i,hi,ab⟩:=Option.map_eq_some_iff.1 hs;have ac:(sizeOf t).run P w = .ok vs.length w:=by simp [sizeOf,typeInfo,hi,ab,hz]
 simp [execOp,hx a ha Cc,hy a ha Cc,Instr.storeAt,Instr.sureAddr,storeVar,ac,hu,r1]
theorem Iq{t:AD}{x y:Bl}{b z:Nat}{e:AD}{u:Aj}{l vs:List Aj}(hb:Ao (Bw cl k) 2=true)(hs:Im P t=some z)(hx:BI n σ True x (.pointer (some ⟨b,0,none⟩)))(hy:BI n σ True y u)
 (hu:u.cells=vs.toArray) (hz:vs.length=z) (hB:Ax w b e l) (aa:Ao vs.length l.length=true) (h1:M6 vs=true)
 (h:∀ w1,w.grownBy w1 (some b)→w1.heap.size=w.heap.size→Ax w1 b e vs→BK P Z ops cl lv W0 n K (k+1) rest σ w1) :
 BK P Z ops cl lv W0 n K k (⟨none,.store t x y,ty,pos,after,none⟩::rest) σ w:=by
 have hf:=Bu aa;refine Df hb hs hx hy hu hz hB (by rw [NR,hf];exact Nat.ble_self_eq_true _) h1 fun w1 h2 h3 h4=>h w1 h2 h3 ?_;rw [NR,hf,List.drop_length,List.take_zero,P1,Lo] at h4;exact h4
theorem Ik{t:AD}{x y:Bl}{b o:Nat}{e:AD}{u v:Aj}{l:List Aj}(hb:Ao (Bw cl k) 2=true)(hs:Im P t=some 1)(hx:BI n σ True x (.pointer (some ⟨b,o,none⟩)))(hy:BI n σ True y u)
 (hu:u.cells = #[v]) (hB:Ax w b e l) (aa:AA o l.length=true) (h1:v.oneCell'=true)
 (h:∀ w1,w.grownBy w1 (some b)→w1.heap.size=w.heap.size→Ax w1 b e (l.set o v)→BK P Z ops cl lv W0 n K (k+1) rest σ w1) :
 BK P Z ops cl lv W0 n K k (⟨none,.store t x y,ty,pos,after,none⟩::rest) σ w:=by
 have hf:o<l.length:=CR aa;refine Df (vs:=[v]) hb hs hx hy hu rfl hB (Nat.ble_eq▸hf) (by simp [M6,h1]) fun w1 h2 h3 h4=>h w1 h2 h3 ?_
 have AU:l.set o v=l.take o++[v]++l.drop (o+[v].length):=by
  rw [List.set_eq_take_append_cons_drop,CO hf];simp
 rw [AU];exact h4
theorem Ja{t e z aa base m q q':Nat}{x y:Bl}{s zv:Aj}{xs news:List Aj}{b' o':Nat}(hb:(Ao (Bw cl k) 2&&AA d n)=true)(ht:Gf P t=some (e,z,aa))(aj:Gh P e=some zv)
 (al:zv.cells.size=z) (ak:0<z) (hx:BI n σ True x s) (ad:w.ownsRow base e z s m xs) (hy:BI n σ True y (.slice (some ⟨b',o',none⟩) q q')) (hl:news.length=q*z) (hn:CQ w b' o' news) (h1:M6 news=true)
 (ai:m+q≤maxLen) (am:(m+q)*aa≤140737488355328) (ab:base≤w.heap.size)
 (h:∀ a' c' w',w'.ownsRow base e z (.slice a' (m+q) c') (m+q) (xs++news)→w.grownBy w' s.ownBlock→((Value.slice a' (m+q) c').ownBlock=s.ownBlock∨(Value.slice a' (m+q) c').ownBlock=some w.heap.size)→BK P Z ops cl lv W0 n K (k+1) rest ((d,True,.slice a' (m+q) c') :: σ) w') :
 BK P Z ops cl lv W0 n K k (⟨some d,.call { callee:=.builtin .append,args:=#[x,y],argTypes:=#[t,t] },ty,pos,after,none⟩::rest) σ w:=by
 obtain ⟨hu,i,hi,ag,ac⟩:=Ms ht;obtain ⟨i',af,an⟩:=PC aj;obtain rfl:i=i':=EM (hi.symm.trans af);simp only [A2] at hb;have hc:=Bu hb.1;obtain ⟨s',w',r1,r2,r3,_,r5⟩:=run_append_own_at (P:=P) w base t ty e i zv z aa hu hi an ag ac al ak s m xs ad ⟨b',o',none⟩ q q' news hl (fun j u hj=>by rw [Addr.add_lit];exact hn j u hj) (eA h1) ai am ab
 obtain ⟨a',c',ah⟩:∃ a' c',s' = .slice a' (m+q) c':=by
  rcases r2.2 with ⟨q1,q2⟩|⟨g,ae,ao,q1,_⟩;exact ⟨none,0,by rw [q1,q2]⟩;exact ⟨_,ae,q1⟩
 subst ah;refine Oa (w':=w') (by rw [hc,hb.2];rfl) (fun d pos after g a ha _=>?_) (fun hh=>O) (h a' c' w' r2 r3 r5);simp only [execOp,resolve,invoke,builtin,Sem.run_bind,Sem.run_pure,Hy,IH,GN,List.map_nil,hx a ha Cc,hy a ha Cc,r1]
end
def Ld(N:Act→Ae→Prop)(X:List (Nat×(Act→Ae→Prop)))(T:Act→Ae→Prop)(B:List Bf→Ae→Prop):Exit→Act→Ae→Prop
 | .normal,a,w=>N a w
 | .ret,a,w=>T a w
 | .exit id,a,w=>match X.lookup id with|some k=>k a w|none=>False
 | .panic ch,a,w=>a.defers=[]∧B ch w
 | _,_,_=>False
@[reducible] def LD(B:List Bf→Ae→Prop)(ch:List Bf)(a:Act)(w:Ae):Prop:=a.defers=[]∧B ch w
structure EN (P:AJ) (B:List Bf→Ae→Prop) (n:Nat) (c:Code) (N:Act→Ae→Prop) (X:List (Nat×(Act→Ae→Prop))) (T:Act→Ae→Prop) (σ:List Ce) (w:Ae):Prop where mk ::
  h:∀ a,Cl n σ a→c.wp P (Ld N X T B) a w
@[reducible] def Se(P:AJ)(n:Nat)(c:Code)(N:Act→Ae→Prop)(X:List (Nat×(Act→Ae→Prop)))(T:Act→Ae→Prop)(σ:List Ce)(w:Ae):Prop:=EN P (fun _ _=>False) n c N X T σ w
section
variable {P:AJ} {B:List Bf→Ae→Prop} {n:Nat} {N T:Act→Ae→Prop} {X:List (Nat×(Act→Ae→Prop))} {σ:List Ce} {w:Ae}
instance {c:Code}:CoeFun (EN P B n c N X T σ w) fun _=>∀ a,Cl n σ a→c.wp P (Ld N X T B) a w:=⟨EN.h⟩
theorem Vd{c:Code}(τ:List Ce)(hs:H0 τ σ)(h:EN P B n c N X T τ w):EN P B n c N X T σ w:=.mk fun a ha=>h a (ha.sub hs)
theorem Ks{x y:Code}(h:∀ K:Act→Ae→Prop,(∀ τ u,EN P B n y N X T τ u→∀ a,Cl n τ a→K a u)→EN P B n x K X T σ w):EN P B n (.seq x y) N X T σ w:=.mk fun a ha=>by
 refine wp_seq (Code.wp_mono (fun e a w q=>?_) (h (fun a w=>y.wp P (Ld N X T B) a w) (fun τ u hy a ha=>hy a ha) a ha));cases e <;> exact q
theorem CJ(h:∀ a,Cl n σ a→N a w):EN P B n .skip N X T σ w:=.mk fun a ha=>wp_skip (h a ha)
theorem Dl(h:∀ a,Cl n σ a→T a w):EN P B n .ret N X T σ w:=.mk fun a ha=>wp_ret (h a ha)
theorem L7{id:Nat}{k:Act→Ae→Prop}(hk:X.lookup id=some k)(h:∀ a,Cl n σ a→k a w):EN P B n (.exit id) N X T σ w:=.mk fun a ha=>wp_exit (by
 show match X.lookup id with|some k=>k a w|none=>False
 rw [hk];exact h a ha)
theorem DF{id:Nat}{c:Code}(h:EN P B n c N ((id,N)::X) T σ w):EN P B n (.block id c) N X T σ w:=.mk fun a ha=>by
 refine wp_block (Code.wp_mono (fun e a w q=>?_) (h a ha))
 cases e with
 | exit id' =>
  simp only [Exit.inBlock];by_cases he:id'=id;subst he;rw [CO rfl];simpa [Ld,List.lookup] using q;rw [CN he];simp only [Ld] at q ⊢;rw [List.lookup_cons] at q;have:(id' == id)=false:=by simpa using he
  rw [this] at q;exact q
 | _=>exact q
theorem Qz{x:Bl}{b:Bool}{p q:Code}(hx:BI n σ True x (.bool b))(h1:b=true→EN P B n p N X T σ w)(h2:b=false→EN P B n q N X T σ w):EN P B n (.cond x p q) N X T σ w:=.mk fun a ha =>
 wp_cond_split (hx a ha Cc) (fun h=>h1 h a ha) (fun h=>h2 h a ha)
theorem Afv{x:Bl}{p q:Code}(hx:BI n σ True x (.bool true))(h1:EN P B n p N X T σ w):EN P B n (.cond x p q) N X T σ w:=Qz hx (fun _=>h1) (fun h=>by cases h)
theorem rJ{x:Bl}{p q:Code}(hx:BI n σ True x (.bool false))(h1:EN P B n q N X T σ w):EN P B n (.cond x p q) N X T σ w:=Qz hx (fun h=>by cases h) (fun _=>h1)
theorem R3{t:Nat}{g:Bool}{y:Code}{b0:Bool}(τ:List Ce)(hs:H0 ((t,True,.bool g) :: τ) σ)(hx:Ex σ t=some (True,.bool g))
 (hy:g=false→EN P B n y (fun a w'=>Cl n ((t,True,.bool b0) :: τ) a∧w'=w) X T σ w) (hN:∀ a,Cl n ((t,True,.bool (g || b0)) :: τ) a→N a w) :
 EN P B n (.cond (.tmp t) .skip y) N X T σ w:=by
 refine Qz (Ab hx) (fun hg=>?_) (fun hg=>?_);subst hg;exact CJ fun a ha=>hN a (by simpa using ha.sub hs);refine .mk fun a ha=>?_;refine Code.wp_mono (fun e a' w' q=>?_) (hy hg a ha)
 cases e with
 | normal=>obtain ⟨q1,rfl⟩:=q;subst hg;exact hN a' (by simpa using q1)
 | _=>exact q
theorem Kb{id:Nat}{l:List Oper}(cl:List Nat)(h:BK P (LD B) l cl [] w n N 0 l σ w):EN P B n (.region id l.toArray false) N X T σ w:=.mk fun a ha=>by
 have h1:=h (fun j o ho=>by simpa using ho) a ha;have e:JN []=fun _=>true:=by funext i;simp [JN]
 rw [e] at h1
 have h2:FL P (LD B) l.toArray (Bw cl) (fun _=>true) w (fun a w=>(Ld N X T B) .normal a w) (Cj l.toArray.size) a w:=by
  rw [List.range_eq_range'];simpa [Ld] using h1
 exact wpIn_wide.1 (Wx (ρ:=none) (fun _ _ _ h=>h) h2)
theorem Jg{id:Nat}{l:List Oper}(cl:List Nat)(lv:List Bool)(ms:List Nat)(hm:P.follows .mixedOrders=true)(aa:ST l cl lv ms=true)
 (h:BK P QO l cl lv w.drew n N 0 l σ w.drew):EN P B n (.region id l.toArray true) N X T σ w:=.mk fun a ha=>by
 have h1:=h (fun j o ho=>by simpa using ho) a ha
 have h2:FL P QO l.toArray (Bw cl) (JN lv) w.drew (fun a w=>(Ld N X T B) .normal a w) (Cj l.toArray.size) a w.drew:=by
  rw [List.range_eq_range'];simpa [Ld] using h1
 exact oD (qF aa) hm h2
def Ww:List Oper→List Nat→List Nat
 | [],m=>m
 | o::r,m=>Ww r (m++[Nu m o.after.toList])
theorem Dj{id:Nat}{l:List Oper}(cl:List Nat)(h:BK P QO l cl [] w.drew n N 0 l σ w.drew)(hm:P.follows .mixedOrders=true:=by exact CG)(hok:ST l cl [] (Ww l [])=true:=by kernel_rfl):EN P B n (.region id l.toArray true) N X T σ w:=Jg cl [] (Ww l []) hm hok h
theorem PM{c:Code}{α:Type}(I:α→Ae→Prop)(σf:α→List Ce)(μ:α→Nat)(x0:α)(h0:I x0 w)(hs:H0 (σf x0) σ)
 (round:∀ x w,I x w→EN P B n c (fun a' w'=>∃ y,Cl n (σf y) a'∧I y w'∧μ y < μ x) X T (σf x) w):EN P B n (.loop c) N X T σ w:=.mk fun a ha=>by
 intro b k cs
 have ag:∀ m x a w,μ x=m→Cl n (σf x) a→I x w→
   ∃ e a' w',Ld N X T B e a' w'∧Arrives P (lone (b.at a (.code c :: .inLoop c::k)) cs w) b k cs e a' w':=by
  intro m
  induction m using Nat.strongRecOn with
  | _ m ih =>
   intro x a w hm hk hI
   obtain ⟨e,a₁,w₁,hq,aa⟩:=round x w hI a hk b (.inLoop c::k) cs
   cases e with
   | normal =>
    obtain ⟨y,ad,ac,ae⟩:=hq
    obtain ⟨e₂,a₂,w₂,af,ab⟩:=ih (μ y) (hm▸ae) y a₁ w₁ rfl ad ac
    exact ⟨e₂,a₂,w₂,af,.of_steps (Steps.trans aa (.one step_inLoop)) ab⟩
   | exit id=>exact ⟨.exit id,a₁,w₁,hq,.pass (x:=.inLoop c) rfl (fun _ _=>.inl BR) aa⟩
   | goto l=>exact hq.elim
   | ret=>exact ⟨.ret,a₁,w₁,hq,.pass (x:=.inLoop c) rfl (fun _ _=>.inl BR) aa⟩
   | panic ch=>exact ⟨.panic ch,a₁,w₁,hq,.pass (x:=.inLoop c) rfl (fun _ _=>.inl BR) aa⟩
   | outgrown=>exact hq.elim
 obtain ⟨e,a',w',hq,aa⟩:=ag _ x0 a w rfl (ha.sub hs) h0;exact ⟨e,a',w',hq,.of_steps (.one step_loop) aa⟩
theorem Hi{c:Code}{α:Type}(I:α→Ae→Prop)(σc:List Ce)(σf:α→List Ce)(μ:α→Nat)(x0:α)(h0:I x0 w)(hs:H0 (σf x0 ++ σc) σ)
  (round:∀ x w,I x w→EN P B n c (fun a' w'=>∃ y,Cl n (σf y ++ σc) a'∧I y w'∧μ y < μ x) X T (σf x ++ σc) w):EN P B n (.loop c) N X T σ w :=
 PM I (fun x=>σf x ++ σc) μ x0 h0 hs round
theorem fI{fn:Func}{R:Aj→Ae→Prop}(hr:fn.results = #[])(h:R (.tuple #[]) w):∀ a,Cl n σ a→bodyPost P fn (fun e w'=>∃ v,e = .returned v∧R v w') .ret a w:=fun a ha =>
 bodyPost_ret (results_none hr _ _ _) ha.2.1 ⟨_,rfl,h⟩
theorem Hh{fn:Func}{R:Aj→Ae→Prop}(hr:fn.results = #[])(h:R (.tuple #[]) w):∀ a,Cl n σ a→bodyPost P fn (fun e w'=>∃ v,e = .returned v∧R v w') .normal a w:=fun a ha =>
 bodyPost_end (results_none hr _ _ _) ha.2.1 ⟨_,rfl,h⟩
theorem Fp{fn:Func}{R:Aj→Ae→Prop}{t:Nat}{v:Aj}(hr:fn.results = #[.tmp t])(hl:Ex σ t=some (True,v))(h:R v w):∀ a,Cl n σ a→bodyPost P fn (fun e w'=>∃ v,e = .returned v∧R v w') .ret a w:=fun a ha =>
 bodyPost_ret (results_tmp hr _ _ _) ha.2.1 ⟨_,rfl,by have:=ha.y hl Cc;simp [this];exact h⟩
def cA(us:List Aj):Aj:=if h:us.toArray.size=1 then us.toArray[0] else .tuple us.toArray
theorem Ql{fn:Func}{R:Aj→Ae→Prop}{ts:List Nat}{vs:List Aj}(hr:fn.results=(ts.map ResultVar.tmp).toArray)(h2:Ao ts.length 1=false)(hl:ts.map (Ex σ)=vs.map (fun v=>some (True,v)))(h:R (.tuple vs.toArray) w) :
 ∀ a,Cl n σ a→bodyPost P fn (fun e w'=>∃ v,e = .returned v∧R v w') .ret a w:=fun a ha=>by
 refine bodyPost_ret (v:=.tuple vs.toArray) ?_ ha.2.1 ⟨_,rfl,h⟩
 have ad:∀ (ts:List Nat) (vs:List Aj),ts.map (Ex σ)=vs.map (fun v=>some (True,v))→ts.map (fun t=>a.tmps.getD t undef)=vs:=by
  intro ts
  induction ts with
  | nil=>intro vs h;cases vs with
   | nil=>rfl
   | cons=>simp at h
  | cons t ts ih =>
   intro vs h
   cases vs with
   | nil=>simp at h
   | cons v vs =>
    simp only [GN,List.cons.injEq] at h;have:=ha.y h.1 Cc;rw [GN,ih vs h.2];simp [this]
 have aa:∀ (ts:List Nat),(ts.mapM (fun t=>(pure (a.tmps.getD t undef):Sem Aj))).run P w = .ok (ts.map fun t=>a.tmps.getD t undef) w:=by
  intro ts
  induction ts with
  | nil=>rfl
  | cons t ts ih =>
   rw [Iz];simp only [Sem.run_bind,Sem.run_pure,Hy] at ih ⊢;rw [ih];rfl
 have ac:(results fn a.tmps).run P w = .ok (cA (ts.map fun t=>a.tmps.getD t undef)) w:=by
  unfold results;rw [hr,IM];simp only [Sem.run_bind,Sem.run_map,List.mapM_map];have:=aa ts;simp only [Function.comp_def];rw [this];rfl
 rw [ac,ad ts vs hl];have ab:vs.length=ts.length:=by have:=congrArg List.length hl;simpa using this.symm
 unfold cA;rw [dif_neg (by simp only [Ht,ab];intro he;rw [he] at h2;simp at h2)]
def JJ:Nat→List Aj→List Ce
 | _,[]=>[]
 | k,v::vs=>(k,True,v)::JJ (k+1) vs
theorem PH:∀ (vs:List Aj) (k t:Nat) (c:Prop) (v:Aj),Ex (JJ k vs) t=some (c,v)→c=True∧k≤t∧vs[t-k]? = some v
 | [],_,_,_,_,h=>by simp [JJ,Ex] at h
 | u::vs,k,t,c,v,h=>by
  unfold JJ Ex at h
  cases hq:Ao k t with
  | true =>
   rw [hq] at h;obtain rfl:=Bu hq;simp only [AL] at h;injection h with h;injection h with AU e2;subst e2;exact ⟨AU.symm,DQ _,by simp⟩
  | false =>
   rw [hq] at h;obtain ⟨h1,h2,h3⟩:=PH vs (k+1) t c v h;refine ⟨h1,O,?_⟩;rw [show t-k=(t-(k+1))+1 by omega];simpa using h3
theorem JB{f:FuncId}{fn:Func}{c:Code}{args:List Aj}{R:Aj→Ae→Prop}{m:Nat}(hf:P.funcs[f]? = some fn)(hb:fn.body=some c)(hm:args.length+(fn.ntmps-args.length)=m)
 (σ0:List Ce) (hs:H0 σ0 (JJ 0 args))
 (hh:Se P m c (fun a w=>bodyPost P fn (fun e w'=>∃ v,e = .returned v∧R v w') .normal a w) [] (fun a w=>bodyPost P fn (fun e w'=>∃ v,e = .returned v∧R v w') .ret a w)
 σ0 w):Bz P f args.toArray w R:=by
 unfold Bz;refine calls_of_wp hf hb (Code.wp_mono (fun e a w q=>?_) (hh _ (Cl.sub (σ:=JJ 0 args) ?_ hs)))
 cases e with
 | normal=>exact q
 | ret=>exact q
 | panic ch=>exact q.2.elim
 | _=>exact q.elim
 refine ⟨by simp [← hm],rfl,fun t c' v hl=>?_⟩;obtain ⟨rfl,_,h3⟩:=PH args 0 t c' v hl;refine ⟨fun _=>?_,fun hn=>absurd Cc hn⟩;rw [Jz] at h3;have aa:t<args.length:=(FI.1 h3).1;simp [Kh,aa,h3];simpa [aa] using h3
end
section
variable {w w':Ae} {base:Nat} {e:AD} {z:Nat} {v:Aj} {m:Nat} {xs:List Aj}
theorem IJ(h:w.ownsRow base e z v m xs):∃ a c,v = .slice a m c∧m≤c:=by
 rcases h.2 with ⟨h1,h2⟩|⟨g,aa,ab,h1,_,_,h4,_⟩;subst h2;exact ⟨none,0,h1,DQ _⟩;exact ⟨_,aa,h1,h4⟩
theorem zU(h:w.ownsRow base e z v m xs){b o c:Nat}{k:Nat}(hv:v = .slice (some ⟨b,o,none⟩) k c):CQ w b o xs∧o=0∧base≤b:=by
 rcases h.2 with ⟨h1,h2⟩|⟨g,aa,ab,h1,h2,h3,h4,h5,h6,h7⟩;rw [h1] at hv;injection hv with hv;cases hv;rw [h1] at hv;injection hv with hv _ _;injection hv with hv;injection hv with AU e2 _;subst AU;subst e2;refine ⟨fun j u hj=>?_,rfl,h2⟩;have:=h.cells (g:=g) (by rw [h1];rfl) j u hj;rwa [Addr.add_lit] at this
theorem LU(h:w.ownsRow base e z v m xs)(hm:0<m):∃ b c,v = .slice (some ⟨b,0,none⟩) m c∧m≤c∧CQ w b 0 xs∧base≤b:=by
 rcases h.2 with ⟨_,h2⟩|⟨g,aa,ab,h1,h2,h3,h4,h5,h6,h7⟩;omega;obtain ⟨q1,_,q3⟩:=zU h h1;exact ⟨g,aa,h1,h4,q1,q3⟩
theorem Dg{row:Option Nat}(h:w.ownsRow base e z v m xs)(hg:w.grownBy w' row)(aa:v.ownBlock=none∨v.ownBlock≠row):w'.ownsRow base e z v m xs:=h.kept hg aa
theorem Ef(h:w.ownsRow base e z v m xs)(hg:G w w'):w'.ownsRow base e z v m xs:=h.kept (hg.O none) (by cases hv:v.ownBlock <;> simp)
theorem Y3(h:w.ownsRow base e z v m xs):w.drew.ownsRow base e z v m xs:=h
theorem J5(w:Ae)(base:Nat)(e:AD)(z:Nat):w.ownsRow base e z (.slice none 0 0) 0 []:=World.ownsRow_nil w base e z
theorem LA(h:G w w')(hb:base≤w.heap.size):Below base w w':=Below.mono h hb
theorem M1{a:Ae}{row:Option Nat}(h:Below base a w)(hg:w.grownBy w' row)(hb:base≤w.heap.size)(hr:∀ k,row=some k→base≤k):Below base a w':=h.grown hg hb hr
theorem Nj{a:Ae}{row:Option Nat}(h:G a w)(hg:w.grownBy w' row)(hr:∀ k,row=some k→a.heap.size≤k):G a w':=Below.grown h hg h.size hr
theorem sH(h:w.ownsRow base e z v m xs){b:Nat}(hb:w.heap.size≤b):v.ownBlock≠some b:=fun hv=>by
 have:=(h.lt b hv).2;omega
end
section
variable {P:AJ} {n:Nat} {σ:List Ce} {c:Prop} {wb:Ae} {ty:AD} {v:Aj}
def St(P:AJ)(t:AD):Option Nat:=match P.underlying t with
 | some (.int _)=>some 0
 | some .string=>some 1
 | some .bool=>some 2
 | _=>none
def TH(P:AJ):Nat→List Field→Option (List Nat)
 | _,[]=>some []
 | k,f::fs=>if Ao f.offset k&&f.name != "_" then match St P f.type,TH P (k+1) fs with
   | some a,some l=>some (a::l)
   | _,_=>none
  else none
def PO(P:AJ)(t:AD):Option (List Nat):=match P.underlying t with
 | some (.struct fs)=>if P.stoodInHeld t=false∧P.eqGuardType P.depth t=false then TH P 0 fs.toList else none
 | _=>none
def H9:List Nat→List Aj→List Aj→Option Bool
 | [],[],[]=>some true
 | 0::ks,.int k a::l,.int k' b::l'=>if k=k' then match H9 ks l l' with|some r=>some (Ac (a=b)&&r)|none=>none else none
 | 1::ks,.string a::l,.string b::l'=>match H9 ks l l' with|some r=>some (Ac (a.data.toList=b.data.toList)&&r)|none=>none
 | 2::ks,.bool a::l,.bool b::l'=>match H9 ks l l' with|some r=>some (a == b&&r)|none=>none
 | _,_,_=>none
theorem Xs{t:AD}(ht:GK P t=true){cs:Array Aj}{o:Nat}{v:Aj}(hv:cs[o]? = some v)(w:Ae):(part t cs o).run P w = .ok v w:=by
 have:(isAgg t).run P w = .ok false w:=by
  unfold GK at ht;split at ht <;> try (cases ht;done)
  rename_i d ab aa hd;simp only [isAgg,Sem.run_bind,run_underlying hd,Hy];cases d <;> simp_all
 simp [part,this,hv]
theorem Agr{t:AD}{k:Nat}(h:St P t=some k):GK P t=true:=by
 unfold St at h;unfold GK;split at h <;> simp_all
theorem xW{u u':Aj}{b:Bool}(he:H9 [0] [u] [u']=some b):∃ k a a',u = .int k a∧u' = .int k a'∧b=Ac (a=a'):=by
 unfold H9 at he;split at he;rename_i h1 _ _;cases h1;rename_i h1 h2 h3;injection h2 with h2 ab;injection h3 with h3 aa;injection h1 with h0 ac;subst ab aa h2 h3 ac;split at he;rename_i hk;subst hk;simp [H9] at he;exact ⟨_,_,_,rfl,rfl,he.symm⟩;cases he;rename_i h1 _ _;cases h1;rename_i h1 _ _;cases h1;cases he
theorem tR{u u':Aj}{b:Bool}(he:H9 [1] [u] [u']=some b):∃ a a',u = .string a∧u' = .string a'∧b=Ac (a.data.toList=a'.data.toList):=by
 unfold H9 at he;split at he;rename_i h1 _ _;cases h1;rename_i h1 _ _;cases h1;rename_i h1 h2 h3;injection h2 with h2 ab;injection h3 with h3 aa;injection h1 with h0 ac;subst ab aa h2 h3 ac;simp only [H9,Bool.and_true,Option.some.injEq] at he;exact ⟨_,_,rfl,rfl,he.symm⟩;rename_i h1 _ _;cases h1;cases he
theorem vT{u u':Aj}{b:Bool}(he:H9 [2] [u] [u']=some b):∃ a a',u = .bool a∧u' = .bool a'∧b=(a == a'):=by
 unfold H9 at he;split at he;rename_i h1 _ _;cases h1;rename_i h1 _ _;cases h1;rename_i h1 _ _;cases h1;rename_i h1 h2 h3;injection h2 with h2 ab;injection h3 with h3 aa;injection h1 with h0 ac;subst ab aa h2 h3 ac;simp only [H9,Bool.and_true,Option.some.injEq] at he;exact ⟨_,_,rfl,rfl,he.symm⟩;cases he
theorem pV{t:AD}{k d:Nat}(h:St P t=some k){u u':Aj}{b:Bool}(he:H9 [k] [u] [u']=some b)(w:Ae):(Op.equalIn (d+1) t u u').run P w = .ok b w:=by
 unfold St at h;split at h <;> try (cases h;done)
 ·rename_i k0 hu
  injection h with h;subst h;obtain ⟨k,a,a',rfl,rfl,rfl⟩:=xW he;rw [run_equalIn_int w d t _ k0 _ _ hu];congr 1
 ·rename_i hu
  injection h with h;subst h;obtain ⟨a,a',rfl,rfl,rfl⟩:=tR he;rw [run_equalIn_string w d t _ _ hu];congr 1;rw [ByteArray.toList_eq,ByteArray.toList_eq];rw [LR];simp
 ·rename_i hu
  injection h with h;subst h;obtain ⟨a,a',rfl,rfl,rfl⟩:=vT he;rw [run_equalIn_bool' w d t _ _ hu]
theorem mK{k:Nat}{ks:List Nat}{l l':List Aj}{b:Bool}(h:H9 (k::ks) l l'=some b):∃ u u' r r' b1 b2,l=u::r∧l'=u'::r'∧H9 [k] [u] [u']=some b1∧H9 ks r r'=some b2∧b=(b1&&b2):=by
 unfold H9 at h;split at h;rename_i h1;cases h1;rename_i h1;injection h1 with h1 aa;subst h1 aa;split at h;rename_i hk;subst hk;split at h;rename_i r hr;injection h with h;exact ⟨_,_,_,_,_,r,rfl,rfl,by simp [H9],hr,h.symm⟩;cases h;cases h;rename_i h1;injection h1 with h1 aa;subst h1 aa;split at h;rename_i r hr;injection h with h;exact ⟨_,_,_,_,_,r,rfl,rfl,by simp [H9],hr,h.symm⟩;cases h;rename_i h1;injection h1 with h1 aa;subst h1 aa;split at h;rename_i r hr;injection h with h;exact ⟨_,_,_,_,_,r,rfl,rfl,by simp [H9],hr,h.symm⟩;cases h;cases h
theorem WG(d:Nat):∀ (fs:List Field) (ks:List Nat) (k:Nat) (l l':List Aj) (pre pre':List Aj) (b:Bool),TH P k fs=some ks→pre.length=k→pre'.length=k→H9 ks l l'=some b→
  ∀ w,(Op.eqFields (d+1) (pre++l).toArray (pre'++l').toArray fs).run P w = .ok b w
 | [],ks,k,l,l',pre,pre',b,hf,h1,h2,he,w=>by
  injection hf with hf;subst hf;unfold H9 at he;split at he <;> simp_all [Op.eqFields]
 | f::fs,ks,k,l,l',pre,pre',b,hf,h1,h2,he,w=>by
  unfold TH at hf;split at hf;rename_i hc;simp only [A2,bne_iff_ne,ne_eq] at hc;have hc:=And.intro (Bu hc.1) hc.2;split at hf;rename_i a ls ha aa;injection hf with hf;subst hf;obtain ⟨u,u',r,r',b1,b2,rfl,rfl,AU,e2,rfl⟩:=mK he;have ho:=Agr ha;have g1:(pre++u::r).toArray[f.offset]? = some u:=by simp [hc.1,← h1]
  have g2:(pre'++u'::r').toArray[f.offset]? = some u':=by simp [hc.1,← h2]
  have ih:=WG d fs ls (k+1) r r' (pre++[u]) (pre'++[u']) b2 aa (by simp [h1]) (by simp [h2]) e2 w;rw [GZ,GZ,ZS,ZS] at ih;simp only [Op.eqFields,CO hc.2,Sem.run_bind,Xs ho g1,Xs ho g2,Hy,pV ha AU];cases b1;simp;simpa using ih;cases hf;cases hf
theorem I9{t u:AD}{x y:Bl}{ks:List Nat}{l l':List Aj}{b:Bool}(ht:PO P t=some ks)(h:BI n σ c x (.agg l.toArray))(h':BI n σ c y (.agg l'.toArray))(he:H9 ks l l'=some b):Db P n σ c wb (.binOp .eql t x y u) ty (.bool b):=.mk fun d pos after gd a ha hc w1 _=>by
 unfold PO at ht;split at ht;rename_i fs aa;split at ht;rename_i hk;have ab:P.fieldsOf t=fs:=by simp [Program.fieldsOf,aa]
 have k2:=run_equalIn_struct w1 9999 t l.toArray l'.toArray (by rw [ab];exact aa) hk.1;have k3:=WG 9998 fs.toList ks 0 l l' [] [] b ht rfl rfl he w1;simp only [P1] at k3;rw [ab,k3] at k2;simp [execOp,h a ha hc,h' a ha hc,run_eqGuard_agg w1 .eql t x y l.toArray l'.toArray hk.2,run_eql_struct,k2];cases ht;cases ht
theorem Xk{t u:AD}{x y:Bl}{ks:List Nat}{l l':List Aj}{b:Bool}(ht:PO P t=some ks)(h:BI n σ c x (.agg l.toArray))(h':BI n σ c y (.agg l'.toArray))(he:H9 ks l l'=some b):Db P n σ c wb (.binOp .neq t x y u) ty (.bool (!b)):=.mk fun d pos after gd a ha hc w1 _=>by
 unfold PO at ht;split at ht;rename_i fs aa;split at ht;rename_i hk;have ab:P.fieldsOf t=fs:=by simp [Program.fieldsOf,aa]
 have k2:=run_equalIn_struct w1 9999 t l.toArray l'.toArray (by rw [ab];exact aa) hk.1;have k3:=WG 9998 fs.toList ks 0 l l' [] [] b ht rfl rfl he w1;simp only [P1] at k3;rw [ab,k3] at k2;simp [execOp,h a ha hc,h' a ha hc,run_eqGuard_agg w1 .neq t x y l.toArray l'.toArray hk.2,run_neq_struct,k2];cases ht;cases ht
def TO(P:AJ)(t:AD):Option Nat:=match P.underlying t with
 | some (.array m e)=>if GK P e=true∧Im P e=some 1 then some m else none
 | _=>none
theorem gK{t m:Nat}{x y:Bl}{cs:Array Aj}{k:IntKind}{i:Int}{v:Aj}(ht:TO P t=some m)(h:BI n σ c x (.agg cs))(h':BI n σ c y (.int k i))(hi:c→0≤i∧i<m)(hv:c→cs[i.toNat]? = some v) :
 Db P n σ c wb (.index t x y) ty v:=.mk fun d pos after gd a ha hc w1 _=>by
 obtain ⟨h0,h1⟩:=hi hc;unfold TO at ht;split at ht;rename_i m' e hu;split at ht;rename_i hk;injection ht with ht;subst ht;obtain ⟨ho,hz⟩:=hk;unfold Im at hz
 cases hi2:P.info? e with
 | none=>rw [hi2] at hz;cases hz
 | some inf =>
  rw [hi2] at hz;injection hz with hz
  have hs:(sizeOf e).run P w1 = .ok 1 w1:=by
   have:=hz;simp [sizeOf,typeInfo,run_program,hi2,hz]
  simp [execOp,h a ha hc,h' a ha hc,Instr.index,asIntOf,run_underlying hu,h0,h1,hs,Xs ho (hv hc)]
 cases ht;cases ht
def Pa:Aj→Bool
 | .nilIface=>true
 | _=>false
theorem VS{t u:AD}{x:Bl}{e:Aj}(ht:P.isIface t=true)(h:BI n σ c x e)(he:e = .nilIface∨∃ a b,e = .iface a b):Db P n σ c wb (.binOp .neq t x (.const .nilIface) u) ty (.bool (!Pa e)):=.mk fun d pos after gd a ha hc w1 _=>by
 rcases he with rfl|⟨t1,u1,rfl⟩;simp [execOp,h a ha hc,UL,eqGuard,binOp,Op.equal,Op.maxDepth,run_equalIn_nil_nil_at w1 9999 t ht,Pa];simp [execOp,h a ha hc,UL,eqGuard,binOp,Op.equal,Op.maxDepth,run_equalIn_iface_nil w1 9999 t ht,Pa]
theorem Rg{e:AD}{i:TypeInfo}(hi:P.info? e=some i)(w:Ae):(sizeOf e).run P w = .ok i.size w:=by simp [sizeOf,typeInfo,run_program,hi]
theorem PI{t e z aa:Nat}{x y:Bl}{o:Option Addr}{m q:Nat}{k:IntKind}{j:Int}(ht:Gf P t=some (e,z,aa))(h:BI n σ c x (.slice o m q))(h':BI n σ c y (.int k j))(hi:c→0≤j∧j≤q) :
 Db P n σ c wb (.slice t x none (some y) none) ty (.slice o j.toNat q):=.mk fun d pos after gd a ha hc w1 _=>by
 obtain ⟨hu,i,ab,hz,_⟩:=Ms ht;have AU:=hi hc;have e2:o.map (fun b=>Addr.add b 0)=o:=by cases o <;> simp [Addr.add]
 simp only [execOp,h a ha hc,h' a ha hc,Instr.sliceAt,EY,Gm,Sem.run_bind,run_underlying hu,Hy];simp [Instr.slice,run_underlying hu,Instr.sliceBounds,Instr.sliceBound,asIntOf,AU,Rg ab,e2]
theorem T7{t e z ab:Nat}{x y:Bl}{b aa:Nat}{m q:Nat}{k:IntKind}{i:Int}(ht:Gf P t=some (e,z,ab))(h:BI n σ c x (.slice (some ⟨b,aa,none⟩) m q))(h':BI n σ c y (.int k i))(hi:c→0≤i∧i≤m) :
 Db P n σ c wb (.slice t x (some y) none none) ty (.slice (some ⟨b,if q=i.toNat then aa else aa+i.toNat*z,none⟩) (m-i.toNat) (q-i.toNat)):=.mk fun d pos after gd a ha hc w1 _=>by
 obtain ⟨hu,ad,ac,hz,_⟩:=Ms ht;have AU:=hi hc;simp only [execOp,h a ha hc,h' a ha hc,Instr.sliceAt,EY,Gm,Sem.run_bind,run_underlying hu,Hy];simp [Instr.slice,run_underlying hu,Instr.sliceBounds,Instr.sliceBound,asIntOf,AU,Rg ac,hz];split <;> simp [Addr.add]
theorem RG{f:FuncId}{fs cs:Array Bl}{vs us:List Aj}(h:Kq n σ c fs.toList vs)(h':Kq n σ c cs.toList us):Db P n σ c wb (.makeFunc (.func f) fs cs) ty (.func (.func f) vs.toArray us.toArray):=.mk fun d pos after gd a ha hc w1 _=>by
 have AU:=h a ha hc;have e2:=h' a ha hc;have e3:fs.map a.eval=vs.toArray:=by rw [← AU,← Array.toList_map,NP]
 have e4:cs.map a.eval=us.toArray:=by rw [← e2,← Array.toList_map,NP]
 simp [execOp,Instr.makeFunc,e3,e4]
def QR(P:AJ)(t:AD):Bool:=match P.underlying t with|some (.interface _)=>false|some _=>true|none=>false
theorem rG{t:AD}{x:Bl}{u:Aj}(ht:QR P t=true)(h:BI n σ c x u):Db P n σ c wb (.makeInterface t x) ty (.iface t u):=.mk fun d pos after gd a ha hc w1 _=>by
 unfold QR at ht;split at ht <;> try (cases ht;done)
 rename_i d' aa hd;simp only [execOp,h a ha hc,Instr.makeInterface,Sem.run_bind,run_underlying hd,Hy];cases d' <;> simp_all
def Qd(P:AJ)(t:AD):Option IntKind:=match P.underlying t with|some (.int k)=>some k|_=>none
theorem bR{t:AD}{k:IntKind}(h:Qd P t=some k):P.underlying t=some (.int k):=by
 unfold Qd at h;split at h;rename_i k' hk;injection h with h;subst h;exact hk;cases h
theorem zS{s t:AD}{x:Bl}{k k1 k2:IntKind}{i:Int}(hs:Qd P s=some k1)(ht:Qd P t=some k2)(h:BI n σ c x (.int k i)):Db P n σ c wb (.convert s t x) ty (.int k2 (k2.wrap i)):=.mk fun d pos after gd a ha hc w1 _=>by
 simp [execOp,h a ha hc,convert,run_underlying (bR hs),run_underlying (bR ht),Conv.intToInt]
theorem zK{t u:AD}{x y:Bl}{k:IntKind}{i j r:Int}(h:BI n σ c x (.int k i))(h':BI n σ c y (.int k j))(hr:c→k.wrap (i-j)=r):Db P n σ c wb (.binOp .sub t x y u) ty (.int k r):=.mk fun d pos after gd a ha hc w1 hg=>by
 have:=kA (P:=P) (t:=t) (u:=u) (wb:=wb) (ty:=ty) h h' d pos after gd a ha hc w1 hg;rw [hr hc] at this;exact this
def Pl(tmps:Array Aj):ResultVar→Sem Aj
 | .tmp t=>pure (tmps.getD t undef)
 | .cell a t=>do loadVar t (← asAddr (tmps.getD a undef))
def KO(P:AJ)(n:Nat)(σ:List Ce)(w:Ae)(rs:List ResultVar)(vs:List Aj):Prop:=∀ a,Cl n σ a→(rs.mapM (Pl a.tmps)).run P w = .ok vs w
theorem GD{w:Ae}:KO P n σ w [] []:=fun _ _=>rfl
theorem Xu{w:Ae}{r:ResultVar}{rs:List ResultVar}{vs:List Aj}(h:∀ a,Cl n σ a→(Pl a.tmps r).run P w = .ok v w)(k:KO P n σ w rs vs):KO P n σ w (r::rs) (v::vs):=fun a ha=>by
 have h1:=h a ha;have h2:=k a ha;rw [Iz];simp only [Sem.run_bind,Sem.run_pure,h1,h2,Hy]
theorem Ij{w:Ae}{t:Nat}{rs:List ResultVar}{vs:List Aj}(h:Ex σ t=some (True,v))(k:KO P n σ w rs vs):KO P n σ w (.tmp t::rs) (v::vs):=Xu (fun a ha=>by
 have:=ha.y h Cc;simp [Pl,this]) k
theorem GJ{w:Ae}{t b o z:Nat}{T:AD}{l:List Aj}{rs:List ResultVar}{vs:List Aj}(h:Ex σ t=some (True,.pointer (some ⟨b,o,none⟩)))(ht:I0 P T=some z)(hl:l.length=z)(hc:CQ w b o l)(k:KO P n σ w rs vs):KO P n σ w (.cell t T::rs) (.agg l.toArray::vs):=Xu (fun a ha=>by
 have:=ha.y h Cc;have h2:=jO ht hl hc;simp [Pl,this,asAddr,h2]) k
theorem Oh{w:Ae}{t b o:Nat}{T:AD}{rs:List ResultVar}{vs:List Aj}(h:Ex σ t=some (True,.pointer (some ⟨b,o,none⟩)))(ht:GK P T=true)(hc:w.cell? ⟨b,o,none⟩=some v)(k:KO P n σ w rs vs):KO P n σ w (.cell t T::rs) (v::vs):=Xu (fun a ha=>by
 have:=ha.y h Cc;have h2:=kE ht hc;simp [Pl,this,asAddr,h2]) k
theorem IZ{fn:Func}{R:Aj→Ae→Prop}{w:Ae}{rs:List ResultVar}{vs:List Aj}(hr:fn.results=rs.toArray)(h2:Ao rs.length 1=false)(hl:KO P n σ w rs vs)(aa:vs.length=rs.length)(h:R (.tuple vs.toArray) w) :
 ∀ a,Cl n σ a→bodyPost P fn (fun e w'=>∃ v,e = .returned v∧R v w') .ret a w:=fun a ha=>by
 refine bodyPost_ret (v:=.tuple vs.toArray) ?_ ha.2.1 ⟨_,rfl,h⟩;have h1:=hl a ha
 have ab:results fn a.tmps=(do let vs ← fn.results.mapM (Pl a.tmps);pure (if h:vs.size=1 then vs[0] else .tuple vs)):=by
  unfold results;congr 1
 rw [ab,hr,IM];simp only [Sem.run_bind,Sem.run_map,h1,Hy];have hn:vs.length≠1:=by rw [aa];intro he;rw [he] at h2;cases h2
 simp [hn]
theorem LJ{fn:Func}{R:Aj→Ae→Prop}{w:Ae}{r:ResultVar}(hr:fn.results = #[r])(hl:KO P n σ w [r] [v])(h:R v w) :
 ∀ a,Cl n σ a→bodyPost P fn (fun e w'=>∃ v,e = .returned v∧R v w') .ret a w:=fun a ha=>by
 refine bodyPost_ret (v:=v) ?_ ha.2.1 ⟨_,rfl,h⟩;have h1:=hl a ha
 have aa:results fn a.tmps=(do let vs ← fn.results.mapM (Pl a.tmps);pure (if h:vs.size=1 then vs[0] else .tuple vs)):=by
  unfold results;congr 1
 rw [aa,hr,IM];simp only [Sem.run_bind,Sem.run_map,h1,Hy];simp
end
structure H8 where
  r:Ae→Ae→Prop
  refl:∀ w,r w w
  trans:∀ {a b c:Ae},r a b→r b c→r a c
@[reducible] def Ej(row:Option Nat):H8:=⟨fun w w'=>w.grownBy w' row,fun w=>(G.refl w).O row,fun h k=>VI h k⟩
abbrev H4(row:H8)(w w':Ae):Prop:=row.r w w'
theorem H4.refl(row:H8)(w:Ae):H4 row w w:=row.refl w
def MA(P:AJ)(Z:List Bf→Act→Ae→Prop)(row:H8)(gr:Bool)(o:Oper)(a:Act)(w:Ae)(next:Act→Ae→Prop):Prop :=
 (∃ v w',(execOp a.eval o).run P w = .ok (.value v) w'∧(gr=true→H4 row w w')∧next (a.put o.dst v) w')∨
 (∃ w',(execOp a.eval o).run P w = .ok .skip w'∧(gr=true→H4 row w w')∧next (a.put o.dst undef) w')∨
 (∃ f args,(execOp a.eval o).run P w = .ok (.enter f args) w∧Calls P f args w fun e w'=>(∃ v,e = .returned v∧(gr=true→H4 row w w')∧next (a.put o.dst v) w')∨(∃ ch,e = .panicked ch∧Z ch a w'))∨
 (∃ l f tmps asg body,(execOp a.eval o).run P w = .ok (.round l f tmps asg body) w∧RoundIn Fence.wide 0 P l f tmps asg body w fun e w'=>∃ v,e = .returned v∧(gr=true→H4 row w w')∧next (a.put o.dst v) w')
theorem MA.wpIn{P:AJ}{Z:List Bf→Act→Ae→Prop}{row:H8}{gr:Bool}{o:Oper}{a:Act}{w:Ae}{next:Act→Ae→Prop}{Q:Exit→Act→Ae→Prop}{ρ:Option Nat}
 (h:MA P Z row gr o a w next) (hZ:∀ ch w',Z ch a w'→Q (.panic ch) a w'):o.wpIn (KC ρ) 0 P a w next Q:=by
 refine JV.wpIn (Z:=Z) (gr:=false) ?_ hZ;rcases h with ⟨v,w',hr,_,hn⟩|⟨w',hr,_,hn⟩|⟨f,ab,hr,hc⟩|⟨l,f,ac,ad,aa,hr,hc⟩;exact .inl ⟨v,w',hr,(fun h=>by cases h),hn⟩;exact .inr (.inl ⟨w',hr,(fun h=>by cases h),hn⟩);refine .inr (.inr (.inl ⟨f,ab,hr,Calls.mono hc fun e w' h=>?_⟩));rcases h with ⟨v,AU,_,h1⟩|⟨ch,AU,h1⟩;exact .inl ⟨v,AU,(fun h=>by cases h),h1⟩;exact .inr ⟨ch,AU,h1⟩;refine .inr (.inr (.inr ⟨l,f,ac,ad,aa,hr,RoundIn.mono hc fun e w' h=>?_⟩));obtain ⟨v,AU,_,h1⟩:=h;exact ⟨v,AU,(fun h=>by cases h),h1⟩
theorem MA.turn{P:AJ}{Z Z':List Bf→Act→Ae→Prop}{row:H8}{gr:Bool}{o:Oper}{a b:Act}{w:Ae}{next aa:Act→Ae→Prop}(he:execOp b.eval o=execOp a.eval o)
 (hz:∀ ch w',Z ch a w'→Z' ch b w')
 (hn:∀ v w',(gr=true→H4 row w w')→next (a.put o.dst v) w'→aa (b.put o.dst v) w') (h:MA P Z row gr o a w next):MA P Z' row gr o b w aa:=by
 rcases h with ⟨v,w',hr,hg,h1⟩|⟨w',hr,hg,h1⟩|⟨f,ac,hr,hc⟩|⟨l,f,ad,ae,ab,hr,hc⟩;exact .inl ⟨v,w',by rw [he];exact hr,hg,hn _ _ hg h1⟩;exact .inr (.inl ⟨w',by rw [he];exact hr,hg,hn _ _ hg h1⟩);refine .inr (.inr (.inl ⟨f,ac,by rw [he];exact hr,Calls.mono hc fun e w' h=>?_⟩));rcases h with ⟨v,AU,hg,h1⟩|⟨ch,AU,h1⟩;exact .inl ⟨v,AU,hg,hn _ _ hg h1⟩;exact .inr ⟨ch,AU,hz _ _ h1⟩;refine .inr (.inr (.inr ⟨l,f,ad,ae,ab,by rw [he];exact hr,RoundIn.mono hc fun e w' h=>?_⟩));obtain ⟨v,AU,hg,h1⟩:=h;exact ⟨v,AU,hg,hn _ _ hg h1⟩
def M9(wt:Nat→Nat→Bool)(L:List Nat)(j:Nat):Prop:=∀ i∈L,wt j i=false
section
variable (P:AJ) (Z:List Bf→Act→Ae→Prop) (ops:Array Oper) (cl:Nat→Nat) (wt:Nat→Nat→Bool) (row:H8) (K:Act→Ae→Prop)
def Gx:Nat→List Nat→Act→Ae→Prop
 | 0,L,a,w=>L=[]∧K a w
 | n+1,L,a,w =>
  (∃ r,r∈L∧M9 wt L r∧(cl r=0∨cl r=3)∧∃ o,ops[r]? = some o∧∃ v,(CY o (yielded ops a.tmps)=true→∀ w1,cl r=3∨H4 row w w1→(execOp a.eval o).run P w1 = .ok (.value v) w1)∧
   (CY o (yielded ops a.tmps)=false→v=undef)∧Gx n (L.erase r) (a.put o.dst v) w)∨
  ((∀ r∈L,M9 wt L r→¬ (cl r=0∨cl r=3))∧∀ j∈L,M9 wt L j→∃ o,ops[j]? = some o∧
   if CY o (yielded ops a.tmps)=true then MA P Z row (cl j == 1) o a w (fun a' w'=>Gx n (L.erase j) a' w') else Gx n (L.erase j) (a.put o.dst undef) w)
end
section
variable {P:AJ} {Z:List Bf→Act→Ae→Prop} {ops:Array Oper} {cl:Nat→Nat} {wt:Nat→Nat→Bool} {row:H8} {K:Act→Ae→Prop}
structure Oc (ops:Array Oper) (cl:Nat→Nat) (wt:Nat→Nat→Bool):Prop where
  sel:∀ (j:Nat) (o:Oper) cs b,ops[j]? = some o→o.op≠.select cs b
  way:∀ (j:Nat) (o:Oper) (i:Nat),ops[j]? = some o→wt j i=true→∃ e,e∈o.after∧Fs .any e=true∧(e.on=i∨wt e.on i=true)
  lt:∀ (j:Nat) (o:Oper) (e:Edge),ops[j]? = some o→e∈o.after→Fs .any e=true→e.on<j
  pair:∀ (i j:Nat) (oi oj:Oper),i<j→ops[i]? = some oi→ops[j]? = some oj→wt j i=false→(¬ (cl i=0∨cl i=3)∧¬ (cl j=0∨cl j=3))∨(oi.apart ops oj=true∧(cl i=3∨cl j=3∨(cl i=0∧cl j≤1)∨(cl j=0∧cl i≤1)))
theorem Oc.bk(ok:Oc ops cl wt){r j:Nat}{or oj:Oper}(hr:ops[r]? = some or)(hj:ops[j]? = some oj)(ab:r≠j)(h1:wt r j=false)(h2:wt j r=false)(hc:cl r=0∨cl r=3) :
 ((∀ d,or.dst=some d→d∉oj.looksAt ops)∧(∀ d,or.dst=some d→oj.dst≠some d)∧(∀ d,oj.dst=some d→d∉or.looksAt ops))∧(cl r=3∨(cl r=0∧(cl j=3∨cl j≤1))):=by
 rcases Nat.lt_or_gt_of_ne ab with aa|aa;rcases ok.pair r j or oj aa hr hj h2 with h|⟨h,hh⟩;exact absurd hc h.1;refine ⟨Oper.apart_spec h,?_⟩;rcases hc with hc|hc;right;refine ⟨hc,?_⟩;omega;exact .inl hc;rcases ok.pair j r oj or aa hj hr h1 with h|⟨h,hh⟩;exact absurd hc h.2;obtain ⟨p1,p2,p3⟩:=Oper.apart_spec h;refine ⟨⟨p3,fun d hd he=>p2 d he hd,p1⟩,?_⟩;rcases hc with hc|hc;right;refine ⟨hc,?_⟩;omega;exact .inl hc
theorem M9.erase{L:List Nat}{j r:Nat}(h:M9 wt L j):M9 wt (L.erase r) j:=fun i hi=>h i (Gc hi)
theorem oK{row:H8}{a b c:Ae}(h:H4 row a b)(k:H4 row b c):H4 row a c:=row.trans h k
theorem Acr(ok:Oc ops cl wt){j:Nat}{oj:Oper}(hj:ops[j]? = some oj)(ad:cl j=0∨cl j=3) :
 ∀ (n:Nat) (L:List Nat) (a:Act) (w:Ae),L.length=n+1→L.Nodup→j∈L→M9 wt L j→Gx P Z ops cl wt row K (n+1) L a w→
 ∃ v,(CY oj (yielded ops a.tmps)=true→∀ w1,cl j=3∨H4 row w w1→(execOp a.eval oj).run P w1 = .ok (.value v) w1)∧
 (CY oj (yielded ops a.tmps)=false→v=undef)∧Gx P Z ops cl wt row K n (L.erase j) (a.put oj.dst v) w:=by
 intro n
 induction n with
 | zero =>
  intro L a w hn nd hm aa h;obtain ⟨x,rfl⟩:∃ x,L=[x]:=aV.1 hn;obtain rfl:j=x:=F3.1 hm;rcases h with ⟨r,hr,ab,hc,o,ho,v,h1,h2,h3⟩|⟨ac,_⟩;obtain rfl:r=j:=F3.1 hr;obtain rfl:o=oj:=EM (ho.symm.trans hj);exact ⟨v,h1,h2,h3⟩;exact absurd ad (ac j hm aa)
 | succ n ih =>
  intro L a w hn nd hm aa h;rcases h with ⟨r,hr,ab,hc,o,ho,u,h1,h2,h3⟩|⟨ac,_⟩;by_cases hrj:r=j;subst hrj;obtain rfl:o=oj:=EM (ho.symm.trans hj);exact ⟨u,h1,h2,h3⟩;obtain ⟨⟨p1,p2,p3⟩,_⟩:=ok.bk ho hj hrj (ab j hm) (aa r hr) hc;have af:∀ v,execOp (a.put o.dst v).eval oj=execOp a.eval oj:=fun v=>execOp_put (ops:=ops) oj (fun cs b=>ok.sel j oj cs b hj) a o.dst v p1;have ah:∀ v,CY oj (yielded ops (a.put o.dst v).tmps)=CY oj (yielded ops a.tmps):=fun v=>wanted_put oj a o.dst v p1;have ai:∀ v,execOp (a.put oj.dst v).eval o=execOp a.eval o:=fun v=>execOp_put (ops:=ops) o (fun cs b=>ok.sel r o cs b ho) a oj.dst v p3;have ae:∀ v,CY o (yielded ops (a.put oj.dst v).tmps)=CY o (yielded ops a.tmps):=fun v=>wanted_put o a oj.dst v p3;have ag:j∈L.erase r:=nd.mem_erase_iff.2 ⟨fun h=>hrj h.symm,hm⟩;have aj:r∈L.erase j:=nd.mem_erase_iff.2 ⟨hrj,hr⟩;obtain ⟨v,k1,k2,k3⟩:=ih (L.erase r) _ w (by rw [Hp hr];omega) (nd.erase r) ag aa.erase h3;rw [ah] at k1 k2;rw [af] at k1;refine ⟨v,k1,k2,.inl ⟨r,aj,ab.erase,hc,o,ho,u,?_,?_,?_⟩⟩;rw [ae,ai];exact h1;rw [ae];exact h2;rw [List.erase_comm,← Act.put_comm a u v p2];exact k3;exact absurd ad (ac j hm aa)
theorem xL(aj:∀ ch (a:Act) d v w,(∃ (i:Nat) (o:Oper),ops[i]? = some o∧o.dst=d)→Z ch (a.put d v) w→Z ch a w)(ok:Oc ops cl wt){j:Nat}{oj:Oper}(hj:ops[j]? = some oj)(ad:¬ (cl j=0∨cl j=3)) :
 ∀ (n:Nat) (L:List Nat) (a:Act) (w:Ae),L.length=n+1→L.Nodup→j∈L→M9 wt L j→Gx P Z ops cl wt row K (n+1) L a w→
 if CY oj (yielded ops a.tmps)=true then MA P Z row (cl j == 1) oj a w (fun a' w'=>Gx P Z ops cl wt row K n (L.erase j) a' w')
 else Gx P Z ops cl wt row K n (L.erase j) (a.put oj.dst undef) w:=by
 intro n
 induction n with
 | zero =>
  intro L a w hn nd hm aa h;obtain ⟨x,rfl⟩:∃ x,L=[x]:=aV.1 hn;obtain rfl:j=x:=F3.1 hm;rcases h with ⟨r,hr,ae,hc,_⟩|⟨_,ac⟩;obtain rfl:r=j:=F3.1 hr;exact absurd hc ad;obtain ⟨o,ho,hb⟩:=ac j hm aa;obtain rfl:o=oj:=EM (ho.symm.trans hj);exact hb
 | succ n ih =>
  intro L a w hn nd hm aa h;rcases h with ⟨r,hr,ae,hc,o,ho,u,h1,h2,h3⟩|⟨_,ac⟩;have af:r≠j:=fun e=>ad (e▸hc);obtain ⟨⟨p1,p2,p3⟩,hq⟩:=ok.bk ho hj af (ae j hm) (aa r hr) hc;have ah:∀ v,execOp (a.put o.dst v).eval oj=execOp a.eval oj:=fun v=>execOp_put (ops:=ops) oj (fun cs b=>ok.sel j oj cs b hj) a o.dst v p1;have ak:∀ v,CY oj (yielded ops (a.put o.dst v).tmps)=CY oj (yielded ops a.tmps):=fun v=>wanted_put oj a o.dst v p1;have al:∀ v,execOp (a.put oj.dst v).eval o=execOp a.eval o:=fun v=>execOp_put (ops:=ops) o (fun cs b=>ok.sel r o cs b ho) a oj.dst v p3;have ag:∀ v,CY o (yielded ops (a.put oj.dst v).tmps)=CY o (yielded ops a.tmps):=fun v=>wanted_put o a oj.dst v p3;have ai:j∈L.erase r:=nd.mem_erase_iff.2 ⟨fun h=>af h.symm,hm⟩;have am:r∈L.erase j:=nd.mem_erase_iff.2 ⟨af,hr⟩;have k:=ih (L.erase r) _ w (by rw [Hp hr];omega) (nd.erase r) ai aa.erase h3;rw [ak] at k
  have back:∀ x w',(cl j=1→H4 row w w')→Gx P Z ops cl wt row K n ((L.erase r).erase j) ((a.put o.dst u).put oj.dst x) w'→Gx P Z ops cl wt row K (n+1) (L.erase j) (a.put oj.dst x) w':=by
   intro x w' hg hk;refine .inl ⟨r,am,ae.erase,hc,o,ho,u,?_,?_,?_⟩;rw [ag,al];intro hw w1 ab;refine h1 hw w1 ?_;rcases ab with ab|ab;exact .inl ab;rcases hq with hq|⟨_,hq⟩;exact .inl hq;refine .inr (oK (hg ?_) ab);have:¬ cl j=0:=fun e=>ad (.inl e);have:¬ cl j=3:=fun e=>ad (.inr e);omega;rw [ag];exact h2;rw [List.erase_comm,← Act.put_comm a u x p2];exact hk
  by_cases hwj:CY oj (yielded ops a.tmps)=true;rw [CO hwj] at k ⊢;exact k.turn (ah u).symm (fun ch w' h=>aj _ _ _ _ _ ⟨_,_,ho,rfl⟩ h) fun x w' hg hk=>back x w' (fun h=>hg (by simp [h])) hk;rw [CN hwj] at k ⊢;exact back _ _ (fun _=>H4.refl _ _) k;obtain ⟨o,ho,hb⟩:=ac j hm aa;obtain rfl:o=oj:=EM (ho.symm.trans hj);exact hb
theorem Left.bg(ok:Oc ops cl wt){L:List Nat}{listed:Array Bool}(hL:Left ops L listed) :
 ∀ (n j:Nat) (oj:Oper),j≤n→ops[j]? = some oj→(∀ e∈oj.after,Fs .any e=true→e.on∉L)→∀ i∈L,wt j i=false:=by
 intro n
 induction n with
 | zero =>
  intro j oj ad hj _ i _
  cases hw:wt j i with
  | false=>rfl
  | true =>
   obtain ⟨e,he,hb,_⟩:=ok.way j oj i hj hw;have:=ok.lt j oj e hj he hb;omega
 | succ n ih =>
  intro j oj ad hj ac i hi
  cases hw:wt j i with
  | false=>rfl
  | true =>
   obtain ⟨e,he,hb,hh⟩:=ok.way j oj i hj hw;have af:=ok.lt j oj e hj he hb;have aa:=ac e he hb;rcases hh with rfl|hh;exact absurd hi aa;have ae:e.on<ops.size:=by have:=(Ei.1 hj).1;omega
   have ab:ops[e.on]? = some ops[e.on]:=E0 ae;have:=ih e.on _ O ab (hL.closed e.on _ ab aa) i hi;rw [this] at hh;cases hh
theorem tW{ρ:Option Nat}(am:∀ ch (a:Act) d v w,(∃ (i:Nat) (o:Oper),ops[i]? = some o∧o.dst=d)→Z ch (a.put d v) w→Z ch a w)(ok:Oc ops cl wt){Q:Exit→Act→Ae→Prop}(hQ:∀ a w,K a w→Q .normal a w)(hZ:∀ ch a w,Z ch a w→Q (.panic ch) a w) :
 ∀ (n:Nat) (L:List Nat) (listed:Array Bool) (a:Act) (w:Ae),L.length=n→Left ops L listed→Gx P Z ops cl wt row K n L a w→wpAnyIn (KC ρ) 0 P .any ops Q n listed a w:=by
 intro n
 induction n with
 | zero =>
  intro L listed a w hn hL h;obtain rfl:L=[]:=bU hn;refine ⟨?_,hQ _ _ h.2⟩;refine Zb.2 fun j hj=>?_;obtain ⟨h0,o,ho,_⟩:=mem_ready.1 hj;have:=(hL.N j).2 ⟨(Ei.1 ho).1,h0⟩;cases this
 | succ n ih =>
  intro L listed a w hn hL h;have nd:L.Nodup:=hL.sorted.imp (fun h=>Kp h)
  have an:∀ j,j∈Region.ready .any ops listed→∃ oj,ops[j]? = some oj∧j∈L∧∀ e∈oj.after,Fs .any e=true→e.on∉L:=by
   intro j hj;obtain ⟨h0,oj,ho,aa⟩:=mem_ready.1 hj;have ak:=(Ei.1 ho).1;refine ⟨oj,ho,(hL.N j).2 ⟨ak,h0⟩,fun e he hb hm=>?_⟩;have h1:=aa e he hb;obtain ⟨h2,h3⟩:=(hL.N e.on).1 hm;have h4:e.on<listed.size:=by rw [hL.size];exact h2
   simp [h4] at h1 h3;rw [h1] at h3;cases h3
  refine ⟨fun h0=>?_,fun j hj=>?_⟩;exfalso
  match L,hn,hL with
  | i::rest,_,hL =>
   have ah:=(hL.N i).1 CC;have ag:ops[i]? = some ops[i]:=E0 ah.1
   have:i∈Region.ready .any ops listed:=by
    refine mem_ready.2 ⟨ah.2,_,ag,fun e he hb=>?_⟩;have ao:=ok.lt i _ e ag he hb
    have al:e.on∉i::rest:=by
     intro hm;rcases E6.1 hm with hm|hm;omega;have:=(Eo.1 hL.sorted).1 _ hm;omega
    have ai:e.on<listed.size:=by rw [hL.size];omega
    cases hl:listed.getD e.on true with
    | false=>exact absurd ((hL.N e.on).2 ⟨by rw [← hL.size];exact ai,hl⟩) al
    | true=>simpa [ai] using hl
   rw [h0] at this;cases this
  obtain ⟨oj,ab,ae,aa⟩:=an j hj;have aj:∀ i∈L,wt j i=false:=hL.bg ok j j oj (DQ _) ab aa;have af:=hL.step ab aa;have ac:(L.erase j).length=n:=by rw [Hp ae];omega
  unfold wpOpIn;simp only [ab];by_cases hc:cl j=0∨cl j=3;obtain ⟨v,h1,h2,h3⟩:=Acr ok ab hc n L a w hn nd ae aj h;have ad:=ih (L.erase j) _ (a.put oj.dst v) w ac af h3;by_cases hwj:CY oj (yielded ops a.tmps)=true;rw [CO hwj];have hr:=h1 hwj w (.inr (H4.refl _ _));refine ⟨fun _ _=>Cc,?_⟩;rw [O2 hr (fun d h=>by cases h),hr];exact ad;rw [CN hwj];have:=h2 (by simpa using hwj);subst this;exact ⟨fun _ _=>Cc,ad⟩;have h1:=xL am ok ab hc n L a w hn nd ae aj h;by_cases hwj:CY oj (yielded ops a.tmps)=true;rw [CO hwj] at h1 ⊢;refine MA.wpIn (Z:=Z) (gr:=cl j == 1) (row:=row) ?_ (fun ch w' h=>hZ _ _ _ h);exact h1.turn rfl (fun _ _ h=>h) fun v w' _ hk=>ih (L.erase j) _ _ w' ac af hk;rw [CN hwj] at h1 ⊢;exact ⟨fun _ _=>Cc,ih (L.erase j) _ _ w ac af h1⟩
theorem VU{ρ:Option Nat}(aa:∀ ch (a:Act) d v w,(∃ (i:Nat) (o:Oper),ops[i]? = some o∧o.dst=d)→Z ch (a.put d v) w→Z ch a w)(ok:Oc ops cl wt){id:Nat}{Q:Exit→Act→Ae→Prop}(hZ:∀ ch a w,Z ch a w→Q (.panic ch) a w){a:Act}{w:Ae}(hm:P.follows .mixedOrders=true)
 (h:Gx P Z ops cl wt row (fun a w=>Q .normal a w) ops.size (Cj ops.size) a w.drew):(Code.region id ops true).wpIn (KC ρ) 0 P Q a w:=by
 refine wpIn_region_any hm ?_;have:=tW (Q:=Q) (ρ:=ρ) aa ok (fun _ _ h=>h) hZ ops.size (Cj ops.size) (Gq ops.size false) a w.drew BR (ZO ops) h;simpa using this
end
def Pk(ops:Array Oper)(cl:List Nat)(ms:List Nat)(E:List (Nat×Oper×Nat))(k:Nat)(o:Oper):Bool :=
 S2 o&&o.after.toList.all (fun e=>!Fs .any e || AA e.on k)&&Ao (ms.getD k 0) (Nu ms o.after.toList) &&
 E.all (fun p=>(ms.getD k 0).testBit p.1 || (!(Ao p.2.2 0 || Ao p.2.2 3) && !(Ao (Bw cl k) 0 || Ao (Bw cl k) 3)) || (p.2.1.apart ops o&&(Ao p.2.2 3 || Ao (Bw cl k) 3 || (Ao p.2.2 0&&Dr (Bw cl k) 1) || (Ao (Bw cl k) 0&&Dr p.2.2 1))))
def T3(ops:Array Oper)(cl:List Nat)(ms:List Nat):List (Nat×Oper×Nat)→Nat→List Oper→Bool
 | _,_,[]=>true
 | E,k,o::rest=>Pk ops cl ms E k o&&T3 ops cl ms ((k,o,Bw cl k)::E) (k+1) rest
def Ox(l:List Oper)(cl:List Nat)(ms:List Nat):Bool:=T3 l.toArray cl ms [] 0 l&&Dr ms.length l.length
theorem Zz(ops:Array Oper)(cl:List Nat)(ms:List Nat):∀ (l:List Oper) (E:List (Nat×Oper×Nat)) (k:Nat),
  (∀ j,l[j]? = ops[k+j]?)→(∀ i,i<k→∃ oi,ops[i]? = some oi∧(i,oi,Bw cl i)∈E)→T3 ops cl ms E k l=true→
  ∀ j oj,k≤j→ops[j]? = some oj→∃ E',(∀ i,i<j→∃ oi,ops[i]? = some oi∧(i,oi,Bw cl i)∈E')∧Pk ops cl ms E' j oj=true
 | [],_,k,hl,_,_=>by
  intro j oj aa hj;have:=hl (j-k);rw [show k+(j-k)=j by omega,hj] at this;simp at this
 | o::rest,E,k,hl,hE,h=>by
  intro j oj aa hj;unfold T3 at h;rw [A2] at h;have h0:ops[k]? = some o:=by simpa using (hl 0).symm
  by_cases hjk:j=k;subst hjk;obtain rfl:o=oj:=EM (h0.symm.trans hj);exact ⟨E,hE,h.1⟩;refine Zz ops cl ms rest ((k,o,Bw cl k)::E) (k+1) (fun j=>by have:=hl (j+1);simpa [Kn,Nat.add_comm 1 j] using this) ?_ h.2 j oj O hj;intro i hi;by_cases hik:i=k;subst hik;exact ⟨o,h0,CC⟩;obtain ⟨oi,h1,h2⟩:=hE i O;exact ⟨oi,h1,D4 _ h2⟩
theorem VJ{l:List Oper}{cl:List Nat}{ms:List Nat}(h:Ox l cl ms=true):Oc l.toArray (Bw cl) (Iu ms):=by
 unfold Ox at h;rw [A2] at h;obtain ⟨h,ad⟩:=h;have S:=Zz l.toArray cl ms l [] 0 BR (fun i hi=>absurd hi O) h;have at_:∀ j oj,l.toArray[j]? = some oj→∃ E',(∀ i,i<j→∃ oi,l.toArray[i]? = some oi∧(i,oi,Bw cl i)∈E')∧Pk l.toArray cl ms E' j oj=true:=fun j oj hj=>S j oj (Nat.zero_le _) hj;refine ⟨?_,?_,?_,?_⟩;intro j o cs b hj ab;obtain ⟨E',_,hh⟩:=at_ j o hj;simp [Pk,S2,ab] at hh;intro j o i hj hw;obtain ⟨E',_,hh⟩:=at_ j o hj;simp only [Pk,A2] at hh;have hm:=Bu hh.1.2;unfold Iu at hw;rw [hm] at hw;obtain ⟨e,h1,h2⟩:=UE ms i _ hw;exact ⟨e,Hv.1 h1,h2⟩;intro j o e hj he hb;obtain ⟨E',_,hh⟩:=at_ j o hj;simp only [Pk,A2,CW,Hv,Ez,Bool.not_eq_true'] at hh;rcases hh.1.1.2 e he with h1|h1;rw [hb] at h1;cases h1;exact CR h1;intro i j oi oj ac hi hj hw;obtain ⟨E',hE,hh⟩:=at_ j oj hj;simp only [Pk,A2,CW] at hh;obtain ⟨aa,h1,h2⟩:=hE i ac;obtain rfl:aa=oi:=EM (h1.symm.trans hi);have h3:=hh.2 _ h2;unfold Iu at hw;dsimp only at h3;rw [hw] at h3;have e:∀ (a b:Nat),Ao a b=true↔a=b:=fun a b=>⟨Bu,fun h=>by subst h;exact Ip a⟩;have e':∀ (a b:Nat),Dr a b=true↔a≤b:=fun a b=>⟨CR,fM⟩;simp only [L3,Ez,A2,Bool.not_eq_true',← Bool.not_eq_true,e,e'] at h3;rcases h3 with h3|⟨ha,h3⟩;exact .inl ⟨h3.1,h3.2⟩;refine .inr ⟨ha,?_⟩;rcases h3 with ((h3|h3)|h3)|h3;exact .inl h3;exact .inr (.inl h3);exact .inr (.inr (.inl h3));exact .inr (.inr (.inr h3))
def Qj(cl:List Nat)(j:Nat):Bool:=Ao (Bw cl j) 0 || Ao (Bw cl j) 3
def LG(ms:List Nat)(L:List Nat)(j:Nat):Bool:=L.all fun i=>!(Iu ms j i)
def P2(cl ms L:List Nat):List Nat:=L.filter fun j=>LG ms L j
theorem NU(ms:List Nat)(L:List Nat)(j:Nat):LG ms L j=true↔M9 (Iu ms) L j:=by
 unfold LG M9;simp [CW]
theorem WB(cl:List Nat)(j:Nat):Qj cl j=true↔(Bw cl j=0∨Bw cl j=3):=by
 unfold Qj;rw [Ez];exact ⟨fun h=>h.imp Bu Bu,fun h=>h.imp (fun e=>by rw [e];rfl) (fun e=>by rw [e];rfl)⟩
structure Hu (P:AJ) (Z:List Bf→Act→Ae→Prop) (ops:List Oper) (cl ms:List Nat) (row:H8) (n:Nat) (K:Act→Ae→Prop) (m:Nat) (L:List Nat) (σ:List Ce) (w:Ae):Prop where mk ::
  h:∀ a,Cl n σ a→Gx P Z ops.toArray (Bw cl) (Iu ms) row K m L a w
section
variable {P:AJ} {Z:List Bf→Act→Ae→Prop} {ops:List Oper} {cl ms:List Nat} {row:H8} {n:Nat} {K:Act→Ae→Prop} {m:Nat} {L L':List Nat} {σ:List Ce} {w:Ae} {d:Nat} {op:Op} {ty:AD} {pos:String} {after:Array Edge} {v:Aj}
instance:CoeFun (Hu P Z ops cl ms row n K m L σ w) fun _=>∀ a,Cl n σ a→Gx P Z ops.toArray (Bw cl) (Iu ms) row K m L a w:=⟨Hu.h⟩
theorem FW(h:∀ a,Cl n σ a→K a w):Hu P Z ops cl ms row n K 0 [] σ w:=.mk fun a ha=>⟨rfl,h a ha⟩
theorem Ke(τ:List Ce)(hs:H0 τ σ)(h:Hu P Z ops cl ms row n K m L τ w):Hu P Z ops cl ms row n K m L σ w:=.mk fun a ha=>h a (ha.sub hs)
theorem Mv(r:Nat)(hr:ops.toArray[r]? = some ⟨some d,op,ty,pos,after,none⟩)(hb:(L.contains r&&LG ms L r&&Ao (Bw cl r) 0&&AA d n)=true)(hL:L.erase r=L')
 (hv:∀ w1,H4 row w w1→Db P n σ True w1 op ty v) (h:Hu P Z ops cl ms row n K m L' ((d,True,v) :: σ) w):Hu P Z ops cl ms row n K (m+1) L σ w:=.mk fun a ha=>by
 simp only [A2] at hb;obtain ⟨⟨⟨h1,h2⟩,h3⟩,h4⟩:=hb;refine .inl ⟨r,by simpa using h1,(NU ms L r).1 h2,.inl (Bu h3),_,hr,v,fun _ w1 hg=>?_,(fun hn=>by cases hn),hL▸h _ (ha.put h4 (fun _=>J) (fun hn=>absurd Cc hn))⟩;rcases hg with hg|hg;rw [Bu h3] at hg;cases hg;exact hv w1 hg _ _ _ _ a ha Cc w1 (G.refl _)
theorem Hj(r:Nat)(hr:ops.toArray[r]? = some ⟨some d,op,ty,pos,after,none⟩)(hb:(L.contains r&&LG ms L r&&Ao (Bw cl r) 3&&AA d n)=true)(hL:L.erase r=L')
 (hv:∀ wb,Db P n σ True wb op ty v) (h:Hu P Z ops cl ms row n K m L' ((d,True,v) :: σ) w):Hu P Z ops cl ms row n K (m+1) L σ w:=.mk fun a ha=>by
 simp only [A2] at hb;obtain ⟨⟨⟨h1,h2⟩,h3⟩,h4⟩:=hb;exact .inl ⟨r,by simpa using h1,(NU ms L r).1 h2,.inr (Bu h3),_,hr,v,fun _ w1 hg=>hv w1 _ _ _ _ a ha Cc w1 (G.refl _),(fun hn=>by cases hn),hL▸h _ (ha.put h4 (fun _=>rfl) (fun hn=>absurd Cc hn))⟩
open Classical in
theorem J2{g t:Nat}{want b:Bool}{c0:Prop}(r:Nat)(hr:ops.toArray[r]? = some ⟨some d,op,ty,pos,after,some (g,want)⟩)(hb:(L.contains r&&LG ms L r&&Ao (Bw cl r) 0&&AA d n)=true)(hL:L.erase r=L')
 (ac:((ops.toArray[g]?).bind (·.dst))=some t) (ab:Ex σ t=some (c0,.bool b))
 (hv:∀ w1,H4 row w w1→Db P n σ (c0∧b=want) w1 op ty v) (h:Hu P Z ops cl ms row n K m L' ((d,c0∧b=want,v) :: σ) w):Hu P Z ops cl ms row n K (m+1) L σ w:=.mk fun a ha=>by
 simp only [A2] at hb;obtain ⟨⟨⟨h1,h2⟩,h3⟩,h4⟩:=hb;have hw:=OL (op:=op) (ty:=ty) (pos:=pos) (after:=after) (want:=want) (d:=some d) ac ab ha;refine .inl ⟨r,by simpa using h1,(NU ms L r).1 h2,.inl (Bu h3),_,hr,if c0∧b=want then v else undef,fun aa w1 hg=>?_,fun hn=>?_,hL▸h _ (ha.put h4 (fun hh=>CO hh) (fun hh=>CN hh))⟩;rcases hg with hg|hg;rw [Bu h3] at hg;cases hg;rw [CO (hw.1 aa)];exact hv w1 hg _ _ _ _ a ha (hw.1 aa) w1 (G.refl _);rw [CN (fun hh=>by rw [hw.2 hh] at hn;cases hn)]
open Classical in
theorem GO{g t:Nat}{want b:Bool}{c0:Prop}(r:Nat)(hr:ops.toArray[r]? = some ⟨some d,op,ty,pos,after,some (g,want)⟩)(hb:(L.contains r&&LG ms L r&&Ao (Bw cl r) 3&&AA d n)=true)(hL:L.erase r=L')
 (ac:((ops.toArray[g]?).bind (·.dst))=some t) (ab:Ex σ t=some (c0,.bool b))
 (hv:∀ wb,Db P n σ (c0∧b=want) wb op ty v) (h:Hu P Z ops cl ms row n K m L' ((d,c0∧b=want,v) :: σ) w):Hu P Z ops cl ms row n K (m+1) L σ w:=.mk fun a ha=>by
 simp only [A2] at hb;obtain ⟨⟨⟨h1,h2⟩,h3⟩,h4⟩:=hb;have hw:=OL (op:=op) (ty:=ty) (pos:=pos) (after:=after) (want:=want) (d:=some d) ac ab ha;refine .inl ⟨r,by simpa using h1,(NU ms L r).1 h2,.inr (Bu h3),_,hr,if c0∧b=want then v else undef,fun aa w1 hg=>?_,fun hn=>?_,hL▸h _ (ha.put h4 (fun hh=>CO hh) (fun hh=>CN hh))⟩;rw [CO (hw.1 aa)];exact hv w1 _ _ _ _ a ha (hw.1 aa) w1 (G.refl _);rw [CN (fun hh=>by rw [hw.2 hh] at hn;cases hn)]
def PZ(P:AJ)(Z:List Bf→Act→Ae→Prop)(ops:List Oper)(cl ms:List Nat)(row:H8)(n:Nat)(K:Act→Ae→Prop)(m:Nat)(L:List Nat)(σ:List Ce)(w:Ae)(j:Nat):Prop :=
 ∀ a,Cl n σ a→∃ o,ops.toArray[j]? = some o∧if CY o (yielded ops.toArray a.tmps)=true then MA P Z row (Bw cl j == 1) o a w (fun a' w'=>Gx P Z ops.toArray (Bw cl) (Iu ms) row K m (L.erase j) a' w')
  else Gx P Z ops.toArray (Bw cl) (Iu ms) row K m (L.erase j) (a.put o.dst undef) w
theorem dT(cs:List Nat)(hb:L.all (fun r=>!(LG ms L r&&Qj cl r))=true)(hc:P2 cl ms L=cs)(h:∀ j∈cs,PZ P Z ops cl ms row n K m L σ w j):Hu P Z ops cl ms row n K (m+1) L σ w:=.mk fun a ha=>by
 refine .inr ⟨fun r hr aa ab=>?_,fun j hj aa=>?_⟩;have:=CW.1 hb r hr;rw [(NU ms L r).2 aa,(WB cl r).2 ab] at this;cases this;exact h j (by rw [← hc];exact List.mem_filter.2 ⟨hj,(NU ms L j).2 aa⟩) a ha
theorem AW(j:Nat)(hb:L.all (fun r=>!(LG ms L r&&Qj cl r))=true)(hc:P2 cl ms L=[j])(h:PZ P Z ops cl ms row n K m L σ w j):Hu P Z ops cl ms row n K (m+1) L σ w :=
 dT [j] hb hc fun i hi=>by rw [F3.1 hi];exact h
theorem Lx(j k:Nat)(hb:L.all (fun r=>!(LG ms L r&&Qj cl r))=true)(hc:P2 cl ms L=[j,k])(h:PZ P Z ops cl ms row n K m L σ w j)(h':PZ P Z ops cl ms row n K m L σ w k):Hu P Z ops cl ms row n K (m+1) L σ w :=
 dT [j,k] hb hc fun i hi=>by
 rcases E6.1 hi with rfl|hi;exact h;rw [F3.1 hi];exact h'
theorem Bt{j:Nat}{o:Oper}(aa:List Nat)(ho:ops.toArray[j]? = some o)(hL:L.erase j=L')(hc:(Ao (Bw aa j) 0 || Ao (Bw aa j) 3)=false)
 (h:BK P Z ops aa [] w n (fun a' w'=>H4 row w w'∧Gx P Z ops.toArray (Bw cl) (Iu ms) row K m L' a' w') j [o] σ w):PZ P Z ops cl ms row n K m L σ w j:=fun a ha=>by
 subst hL
 have h1:=h (fun i o' h=>by cases i with
  | zero=>injection h with h;subst h;exact ho
  | succ i=>cases h) a ha
 have ah:¬ (Bw aa j=0∨Bw aa j=3):=by
  intro e;rw [kC] at hc;rcases e with e|e <;> rw [e] at hc <;> simp at hc
 obtain ⟨o',af,h2⟩:=h1;obtain rfl:o'=o:=EM (af.symm.trans ho);rw [CN ah] at h2;refine ⟨o',ho,?_⟩;by_cases hw:CY o' (yielded ops.toArray a.tmps)=true;rw [CO hw] at h2 ⊢;rcases h2 with ⟨v,w',hr,_,hn⟩|⟨w',hr,_,hn⟩|⟨f,ad,hr,ab⟩|⟨l,f,ae,ag,ac,hr,ab⟩;exact .inl ⟨v,w',hr,fun _=>hn.1,hn.2⟩;exact .inr (.inl ⟨w',hr,fun _=>hn.1,hn.2⟩);refine .inr (.inr (.inl ⟨f,ad,hr,Calls.mono ab fun e w' h=>?_⟩));rcases h with ⟨v,he,_,hn⟩|h;exact .inl ⟨v,he,fun _=>hn.1,hn.2⟩;exact .inr h;exact .inr (.inr (.inr ⟨l,f,ae,ag,ac,hr,RoundIn.mono ab fun e w' ⟨v,he,_,hn⟩=>⟨v,he,fun _=>hn.1,hn.2⟩⟩));rw [CN hw] at h2 ⊢;exact h2.2
theorem DN{j:Nat}{o:Oper}(aa:List Nat)(ho:ops.toArray[j]? = some o)(hL:L.erase j=L')(hc:(Ao (Bw aa j) 0 || Ao (Bw aa j) 3)=false)(ag:Ao (Bw cl j) 1=false)
 (h:BK P Z ops aa [] w n (fun a' w'=>Gx P Z ops.toArray (Bw cl) (Iu ms) row K m L' a' w') j [o] σ w):PZ P Z ops cl ms row n K m L σ w j:=fun a ha=>by
 subst hL
 have h1:=h (fun i o' h=>by cases i with
  | zero=>injection h with h;subst h;exact ho
  | succ i=>cases h) a ha
 have aj:¬ (Bw aa j=0∨Bw aa j=3):=by
  intro e;rw [kC] at hc;rcases e with e|e <;> rw [e] at hc <;> simp at hc
 have ac:(Bw cl j == 1)=false:=by
  cases h:(Bw cl j == 1) with
  | false=>rfl
  | true=>rw [eq_of_beq h] at ag;cases ag
 obtain ⟨o',ah,h2⟩:=h1;obtain rfl:o'=o:=EM (ah.symm.trans ho);rw [CN aj] at h2;refine ⟨o',ho,?_⟩;rw [ac];by_cases hw:CY o' (yielded ops.toArray a.tmps)=true;rw [CO hw] at h2 ⊢;rcases h2 with ⟨v,w',hr,_,hn⟩|⟨w',hr,_,hn⟩|⟨f,ae,hr,ab⟩|⟨l,f,af,ai,ad,hr,ab⟩;exact .inl ⟨v,w',hr,(fun h=>by cases h),hn⟩;exact .inr (.inl ⟨w',hr,(fun h=>by cases h),hn⟩);refine .inr (.inr (.inl ⟨f,ae,hr,Calls.mono ab fun e w' h=>?_⟩));rcases h with ⟨v,he,_,hn⟩|h;exact .inl ⟨v,he,(fun h=>by cases h),hn⟩;exact .inr h;exact .inr (.inr (.inr ⟨l,f,af,ai,ad,hr,RoundIn.mono ab fun e w' ⟨v,he,_,hn⟩=>⟨v,he,(fun h=>by cases h),hn⟩⟩));rw [CN hw] at h2 ⊢;exact h2
theorem DL{aa:List Nat}{W0:Ae}{k:Nat}(h:Hu P Z ops cl ms row n K m L σ w):BK P Z ops aa [] W0 n (fun a' w'=>Gx P Z ops.toArray (Bw cl) (Iu ms) row K m L a' w') k [] σ w:=Ai h
theorem Bs{aa:List Nat}{W0 w0:Ae}{k:Nat}(hg:H4 row w0 w)(h:Hu P Z ops cl ms row n K m L σ w):BK P Z ops aa [] W0 n (fun a' w'=>H4 row w0 w'∧Gx P Z ops.toArray (Bw cl) (Iu ms) row K m L a' w') k [] σ w:=Ai fun a ha=>⟨hg,h a ha⟩
end
section
variable {P:AJ} {B:List Bf→Ae→Prop} {n:Nat} {N T:Act→Ae→Prop} {X:List (Nat×(Act→Ae→Prop))} {σ:List Ce} {w:Ae}
theorem Dx{id:Nat}{l:List Oper}(row:H8)(cl:List Nat)(ms:List Nat)(hm:P.follows .mixedOrders=true)(aa:Ox l cl ms=true)(L:List Nat)(hL:Cj l.length=L)
 (h:Hu P (LD B) l cl ms row n N l.length L σ w.drew):EN P B n (.region id l.toArray true) N X T σ w:=.mk fun a ha=>by
 have h1:=h a ha;subst hL;have h2:Gx P (LD B) l.toArray (Bw cl) (Iu ms) row (fun a w=>(Ld N X T B) .normal a w) l.toArray.size (Cj l.toArray.size) a w.drew:=by simpa [Ld] using h1
 exact wpIn_wide.1 (VU (ρ:=none) (fun _ a d v _ _ h=>⟨by cases d <;> exact h.1,h.2⟩) (VJ aa) (fun _ _ _ h=>h) hm h2)
end
section
variable {P:AJ} {n:Nat} {σ:List Ce} {c:Prop} {wb:Ae} {ty:AD} {v:Aj}
end
section
variable {P:AJ} {Z:List Bf→Act→Ae→Prop} {ops:List Oper} {cl:List Nat} {lv:List Bool} {W0:Ae} {n:Nat} {K:Act→Ae→Prop} {k:Nat} {rest:List Oper} {σ:List Ce} {w:Ae} {d:Nat} {ty:AD} {pos:String} {after:Array Edge}
end
def FD(σ:List Ce):Bl→Option (Prop×Aj)
 | .tmp t=>Ex σ t
 | .const v=>some (True,v)
 | .global g=>some (True,.pointer (some ⟨g,0,none⟩))
 | .func f=>some (True,.func (.func f) #[] #[])
section
variable {n:Nat} {σ:List Ce} {c:Prop} {v:Aj}
theorem FN{x:Bl}(h:FD σ x=some (True,v)):BI n σ c x v:=by
 cases x with
 | tmp t=>exact Ab h
 | const u=>injection h with h;injection h with _ h;subst h;exact Bd
 | global g=>injection h with h;injection h with _ h;subst h;exact IV
 | func f=>injection h with h;injection h with _ h;subst h;exact BX
theorem CI:Kq n σ c [] []:=DC
theorem Cn{x:Bl}{u:Aj}{xs:List Bl}{vs:List Aj}(h:FD σ x=some (True,u))(k:Kq n σ c xs vs):Kq n σ c (x::xs) (u::vs):=CM (FN h) k
theorem CH:Mg n σ c #[] []:=IR
theorem Bk{i:Nat}{x:Bl}{u:Aj}{ps:List (Nat×Bl)}{vs:List (Nat×Aj)}(h:FD σ x=some (True,u))(k:Mg n σ c ps.toArray vs):Mg n σ c ((i,x)::ps).toArray ((i,u)::vs):=J6 (FN h) k
end
section
variable {P:AJ} {Z:List Bf→Act→Ae→Prop} {ops:List Oper} {cl:List Nat} {lv:List Bool} {W0:Ae} {n:Nat} {K:Act→Ae→Prop} {k:Nat} {rest:List Oper} {σ:List Ce} {w:Ae} {d:Nat} {op:Op} {ty:AD} {pos:String} {after:Array Edge} {v:Aj} {x y:Bl}
section
theorem Ap(hx:FD σ x=some (True,v))(h:BK P Z ops cl lv W0 n K (k+1) rest ((d,True,v) :: σ) w)(hb:(Ao (Bw cl k) 3&&AA d n)=true:=by exact rfl):BK P Z ops cl lv W0 n K k (⟨some d,.move x,ty,pos,after,none⟩::rest) σ w:=AR hb (fun _=>J1 (FN hx)) h
theorem Bj(hx:FD σ x=some (True,v))(h:BK P Z ops cl lv W0 n K (k+1) rest ((d,True,v) :: σ) w)(hb:(Ao (Bw cl k) 3&&AA d n)=true:=by exact rfl):BK P Z ops cl lv W0 n K k (⟨some d,.assign x,ty,pos,after,none⟩::rest) σ w:=AR hb (fun _=>Fj (FN hx)) h
theorem C1{a:Addr}(hx:FD σ x=some (True,.pointer (some a)))(h:BK P Z ops cl lv W0 n K (k+1) rest ((d,True,.pointer (some a)) :: σ) w)(hb:(Ao (Bw cl k) 3&&AA d n)=true:=by exact rfl):BK P Z ops cl lv W0 n K k (⟨some d,.nilCheck x,ty,pos,after,none⟩::rest) σ w:=AR hb (fun _=>FZ (FN hx)) h
theorem AE{s j aa b o:Nat}(hf:EA P s j=some aa)(hx:FD σ x=some (True,.pointer (some ⟨b,o,none⟩)))(h:BK P Z ops cl lv W0 n K (k+1) rest ((d,True,.pointer (some ⟨b,o+aa,none⟩)) :: σ) w)(hb:(Ao (Bw cl k) 3&&AA d n)=true:=by exact rfl):BK P Z ops cl lv W0 n K k (⟨some d,.fieldAddr s x j,ty,pos,after,none⟩::rest) σ w:=AR hb (fun _=>AB hf (FN hx)) h
theorem Sd{t:AD}{i:Bool}(hx:FD σ x=some (True,.bool i))(h:BK P Z ops cl lv W0 n K (k+1) rest ((d,True,.bool (!i)) :: σ) w)(hb:(Ao (Bw cl k) 3&&AA d n)=true:=by exact rfl):BK P Z ops cl lv W0 n K k (⟨some d,.unOp .not t x,ty,pos,after,none⟩::rest) σ w:=AR hb (fun _=>PD (FN hx)) h
theorem Fy{t u:AD}{q:IntKind}{i j:Int}(hx:FD σ x=some (True,.int q i))(hy:FD σ y=some (True,.int q j))(h:BK P Z ops cl lv W0 n K (k+1) rest ((d,True,.bool (Ac (i=j))) :: σ) w)(hb:(Ao (Bw cl k) 3&&AA d n)=true:=by exact rfl):BK P Z ops cl lv W0 n K k (⟨some d,.binOp .eql t x y u,ty,pos,after,none⟩::rest) σ w:=AR hb (fun _=>Gk (FN hx) (FN hy)) h
theorem MH{t u:AD}{q:IntKind}{i j:Int}(hx:FD σ x=some (True,.int q i))(hy:FD σ y=some (True,.int q j))(h:BK P Z ops cl lv W0 n K (k+1) rest ((d,True,.bool (!Ac (i=j))) :: σ) w)(hb:(Ao (Bw cl k) 3&&AA d n)=true:=by exact rfl):BK P Z ops cl lv W0 n K k (⟨some d,.binOp .neq t x y u,ty,pos,after,none⟩::rest) σ w:=AR hb (fun _=>IA (FN hx) (FN hy)) h
theorem GG{t u:AD}{q:IntKind}{i j:Int}(hx:FD σ x=some (True,.int q i))(hy:FD σ y=some (True,.int q j))(h:BK P Z ops cl lv W0 n K (k+1) rest ((d,True,.bool (Ac (i<j))) :: σ) w)(hb:(Ao (Bw cl k) 3&&AA d n)=true:=by exact rfl):BK P Z ops cl lv W0 n K k (⟨some d,.binOp .lss t x y u,ty,pos,after,none⟩::rest) σ w:=AR hb (fun _=>Q5 (FN hx) (FN hy)) h
theorem SI{t u:AD}{q:IntKind}{i j:Int}(hx:FD σ x=some (True,.int q i))(hy:FD σ y=some (True,.int q j))(h:BK P Z ops cl lv W0 n K (k+1) rest ((d,True,.bool (Ac (j<i))) :: σ) w)(hb:(Ao (Bw cl k) 3&&AA d n)=true:=by exact rfl):BK P Z ops cl lv W0 n K k (⟨some d,.binOp .gtr t x y u,ty,pos,after,none⟩::rest) σ w:=AR hb (fun _=>QV (FN hx) (FN hy)) h
theorem Nz{t u:AD}{q:IntKind}{i j:Int}(hx:FD σ x=some (True,.int q i))(hy:FD σ y=some (True,.int q j))(h:BK P Z ops cl lv W0 n K (k+1) rest ((d,True,.bool (Ac (j≤i))) :: σ) w)(hb:(Ao (Bw cl k) 3&&AA d n)=true:=by exact rfl):BK P Z ops cl lv W0 n K k (⟨some d,.binOp .geq t x y u,ty,pos,after,none⟩::rest) σ w:=AR hb (fun _=>Q8 (FN hx) (FN hy)) h
theorem MD{t u:AD}{i j:List UInt8}(hx:FD σ x=some (True,Cg i))(hy:FD σ y=some (True,Cg j))(h:BK P Z ops cl lv W0 n K (k+1) rest ((d,True,.bool (Ac (i=j))) :: σ) w)(hb:(Ao (Bw cl k) 3&&AA d n)=true:=by exact rfl):BK P Z ops cl lv W0 n K k (⟨some d,.binOp .eql t x y u,ty,pos,after,none⟩::rest) σ w:=AR hb (fun _=>OB (FN hx) (FN hy)) h
theorem FJ{i:Nat}{vs:Array Aj}(hx:FD σ x=some (True,.tuple vs))(hv:vs[i]? = some v)(h:BK P Z ops cl lv W0 n K (k+1) rest ((d,True,v) :: σ) w)(hb:(Ao (Bw cl k) 3&&AA d n)=true:=by exact rfl):BK P Z ops cl lv W0 n K k (⟨some d,.extract x i,ty,pos,after,none⟩::rest) σ w:=AR hb (fun _=>Gr (FN hx) hv) h
end
theorem AM{t b o:Nat}(ht:GK P t=true)(hx:FD σ x=some (True,.pointer (some ⟨b,o,none⟩)))(hc:w.cell? ⟨b,o,none⟩=some v)(h:BK P Z ops cl lv W0 n K (k+1) rest ((d,True,v) :: σ) w)(hb:(Ao (Bw cl k) 0&&JN lv k&&AA d n)=true:=by exact rfl):BK P Z ops cl lv W0 n K k (⟨some d,.load t x,ty,pos,after,none⟩::rest) σ w:=FG hb (AZ ht (FN hx) (fun _=>hc)) h
theorem Ct{t b o z:Nat}{l:List Aj}(ht:I0 P t=some z)(hx:FD σ x=some (True,.pointer (some ⟨b,o,none⟩)))(hl:l.length=z)(hc:CQ w b o l)(h:BK P Z ops cl lv W0 n K (k+1) rest ((d,True,.agg l.toArray) :: σ) w)(hb:(Ao (Bw cl k) 0&&JN lv k&&AA d n)=true:=by exact rfl):BK P Z ops cl lv W0 n K k (⟨some d,.load t x,ty,pos,after,none⟩::rest) σ w:=FG hb (A8 ht (FN hx) hl (fun _=>hc)) h
end
section
variable {P:AJ} {B:List Bf→Ae→Prop} {n:Nat} {N T:Act→Ae→Prop} {X:List (Nat×(Act→Ae→Prop))} {σ:List Ce} {w:Ae}
theorem Cv{x:Bl}{b:Bool}{p q:Code}(hx:FD σ x=some (True,.bool b))(h1:b=true→EN P B n p N X T σ w)(h2:b=false→EN P B n q N X T σ w):EN P B n (.cond x p q) N X T σ w:=Qz (FN hx) h1 h2
end
def aM(P:AJ)(B:List Bf→Ae→Prop)(n:Nat)(y:Code)(N:Act→Ae→Prop)(X:List (Nat×(Act→Ae→Prop)))(T:Act→Ae→Prop)(a:Act)(u:Ae):Prop:=∃ τ,Cl n τ a∧EN P B n y N X T τ u
section
variable {P:AJ} {B:List Bf→Ae→Prop} {n:Nat} {N T:Act→Ae→Prop} {X:List (Nat×(Act→Ae→Prop))} {σ:List Ce} {w:Ae}
theorem Al{y:Code}(h:EN P B n y N X T σ w):∀ a,Cl n σ a→aM P B n y N X T a w:=fun a ha=>⟨σ,ha,h⟩
theorem Am{x y:Code}(h:EN P B n x (aM P B n y N X T) X T σ w):EN P B n (.seq x y) N X T σ w:=.mk fun a ha=>by
 refine wp_seq (Code.wp_mono (fun e a w q=>?_) (h a ha))
 cases e with
 | normal=>obtain ⟨τ,hk,hs⟩:=q;exact hs a hk
 | _=>exact q
end
theorem BJ{a w w':Ae}{j:Nat}(h:G a w)(hg:w.grownBy w' (some j))(hj:a.heap.size≤j):G a w':=Nj h hg fun k hk=>by injection hk with hk;omega
theorem Fa{p:Prop}(h:(2:Nat)=1):p:=absurd h BT
def lC(o:Oper):Nat:=match o.op with
 | .load ..=>0
 | .move .. | .assign .. | .pick .. | .nilCheck .. | .binOp .. | .unOp .. | .makeInterface .. | .makeFunc .. | .slice .. | .fieldAddr .. | .field .. | .indexAddr .. | .index .. | .extract .. | .build ..=>3
 | .call c=>match c.callee with
  | .builtin .len=>3
  | _=>2
 | _=>2
theorem Au{P:AJ}{B:List Bf→Ae→Prop}{n:Nat}{N T:Act→Ae→Prop}{X:List (Nat×(Act→Ae→Prop))}{σ:List Ce}{w:Ae}{id:Nat}{l:List Oper}(h:BK P (LD B) l (l.map lC) [] w n N 0 l σ w):EN P B n (.region id l.toArray false) N X T σ w:=Kb _ h
section
variable {P:AJ} {Z:List Bf→Act→Ae→Prop} {ops:List Oper} {cl ms:List Nat} {row:H8} {n:Nat} {K:Act→Ae→Prop} {m:Nat} {L:List Nat} {σ:List Ce} {w:Ae} {d:Nat} {op:Op} {ty:AD} {pos:String} {after:Array Edge} {v:Aj}
theorem Bb(r:Nat)(hr:ops.toArray[r]? = some ⟨some d,op,ty,pos,after,none⟩)(hb:(L.contains r&&LG ms L r&&Ao (Bw cl r) 0&&AA d n)=true)
  (hv:∀ w1,H4 row w w1→Db P n σ True w1 op ty v) (h:Hu P Z ops cl ms row n K m (L.erase r) ((d,True,v) :: σ) w):Hu P Z ops cl ms row n K (m+1) L σ w:=Mv r hr hb rfl hv h
theorem As(r:Nat)(hr:ops.toArray[r]? = some ⟨some d,op,ty,pos,after,none⟩)(hb:(L.contains r&&LG ms L r&&Ao (Bw cl r) 3&&AA d n)=true)
  (hv:∀ wb,Db P n σ True wb op ty v) (h:Hu P Z ops cl ms row n K m (L.erase r) ((d,True,v) :: σ) w):Hu P Z ops cl ms row n K (m+1) L σ w:=Hj r hr hb rfl hv h
end
theorem HG{a w:Ae}(g:G a w):G a w.drew:=g.trans (G.drew _)
theorem FY{p A B:Prop}(h:A→B→p)(k:(A→B→p)→p:=by exact fun z=>z (HG g) E.dr):p:=k h
theorem A0{n:Nat}{σ:List Ce}{w:Ae}:∀ a,Cl n σ a→Cl n σ a∧w=w:=fun _ h=>⟨h,rfl⟩
section
variable {P:AJ} {Z:List Bf→Act→Ae→Prop} {ops:List Oper} {cl:List Nat} {lv:List Bool} {W0:Ae} {n:Nat} {K:Act→Ae→Prop} {k:Nat} {rest:List Oper} {σ:List Ce} {w:Ae} {d:Nat} {ty:AD} {pos:String} {after:Array Edge} {t:AD} {x y:Bl} {b o z:Nat} {e:AD} {u v:Aj} {l vs:List Aj}
theorem Jl(hs:Im P t=some 1)(hx:FD σ x=some (True,.pointer (some ⟨b,o,none⟩)))(hy:FD σ y=some (True,u))(hu:u.cells = #[v])(hB:Ax w b e l)
  (h:∀ w1,w.grownBy w1 (some b)→w1.heap.size=w.heap.size→Ax w1 b e (l.set o v)→BK P Z ops cl lv W0 n K (k+1) rest σ w1) (hb:Ao (Bw cl k) 2=true:=by exact rfl) (hfit:AA o l.length=true:=by exact rfl) (h1:v.oneCell'=true:=by exact rfl) :
  BK P Z ops cl lv W0 n K k (⟨none,.store t x y,ty,pos,after,none⟩::rest) σ w:=Ik hb hs (FN hx) (FN hy) hu hB hfit h1 h
theorem FH(hs:Im P t=some z)(hx:FD σ x=some (True,.pointer (some ⟨b,0,none⟩)))(hy:FD σ y=some (True,u))(hu:u.cells=vs.toArray)(hB:Ax w b e l)
  (h:∀ w1,w.grownBy w1 (some b)→w1.heap.size=w.heap.size→Ax w1 b e vs→BK P Z ops cl lv W0 n K (k+1) rest σ w1) (hb:Ao (Bw cl k) 2=true:=by exact rfl) (hz:vs.length=z:=by exact rfl) (hfit:Ao vs.length l.length=true:=by exact rfl) (h1:M6 vs=true:=by exact rfl) :
  BK P Z ops cl lv W0 n K k (⟨none,.store t x y,ty,pos,after,none⟩::rest) σ w:=Iq hb hs (FN hx) (FN hy) hu hz hB hfit h1 h
theorem Hg{ps:Array (Nat×Bl)}{vs:List (Nat×Aj)}{pl:List (Nat×Nat)}{z:Aj}{zl l:List Aj}(hz:Gh P t=some z)(hp:Ll P t=some pl)(hx:Mg n σ True ps vs)(aa:z.cells=zl.toArray)
  (hl:Ng (fun i=>pl[i]?) zl vs=some l) (h:BK P Z ops cl lv W0 n K (k+1) rest ((d,True,.agg l.toArray) :: σ) w) (hb:(Ao (Bw cl k) 3&&AA d n)=true:=by exact rfl) :
  BK P Z ops cl lv W0 n K k (⟨some d,.build t ps,ty,pos,after,none⟩::rest) σ w:=AR hb (fun _=>Jj l hz aa hp hx hl) h
theorem EI{t e z aa:Nat}{x:Bl}{b:Option Addr}{m q:Nat}(ht:Gf P t=some (e,z,aa))(hx:FD σ x=some (True,.slice b m q))(h:BK P Z ops cl lv W0 n K (k+1) rest ((d,True,.int .i64 m) :: σ) w)(hb:(Ao (Bw cl k) 3&&AA d n)=true:=by exact rfl) :
  BK P Z ops cl lv W0 n K k (⟨some d,.call { callee:=.builtin .len,args:=#[x],argTypes:=#[t] },ty,pos,after,none⟩::rest) σ w:=AR hb (fun _=>Lp ht (FN hx)) h
theorem Hn{t e z aa:Nat}{b o m q:Nat}{g:IntKind}{i:Int}(ht:Gf P t=some (e,z,aa))(hx:FD σ x=some (True,.slice (some ⟨b,o,none⟩) m q))(hy:FD σ y=some (True,.int g i))(hi:0≤i∧i<m)
  (h:BK P Z ops cl lv W0 n K (k+1) rest ((d,True,.pointer (some ⟨b,o+i.toNat*z,none⟩)) :: σ) w) (hb:(Ao (Bw cl k) 3&&AA d n)=true:=by exact rfl):BK P Z ops cl lv W0 n K k (⟨some d,.indexAddr t x y,ty,pos,after,none⟩::rest) σ w:=AR hb (fun _=>KQ ht (FN hx) (FN hy) fun _=>hi) h
theorem H2{t u:AD}{i j:Int}(hx:FD σ x=some (True,.int .i64 i))(hy:FD σ y=some (True,.int .i64 j))(hr : -9223372036854775808≤i+j∧i+j≤9223372036854775807)
  (h:BK P Z ops cl lv W0 n K (k+1) rest ((d,True,.int .i64 (i+j)) :: σ) w) (hb:(Ao (Bw cl k) 3&&AA d n)=true:=by exact rfl):BK P Z ops cl lv W0 n K k (⟨some d,.binOp .add t x y u,ty,pos,after,none⟩::rest) σ w:=AR hb (fun _=>Uo (FN hx) (FN hy) fun _=>hr) h
end
theorem Dw{a w w1:Ae}{b:Nat}{e:AD}{l:List Aj}(h:Ki w w1 b e l)(g:a.heap.size≤w.heap.size):a.heap.size≤b:=by have:=h.y;omega
def ME(w:Ae):List (Nat×AD×List Aj)→Prop
 | []=>True
 | (b,e,l)::L=>Ax w b e l∧ME w L
def CP(w:Ae)(L:List (Nat×AD×List Aj)):Prop:=(L.map Prod.fst).Nodup∧ME w L
section
variable {w w':Ae} {L:List (Nat×AD×List Aj)} {b:Nat} {e:AD} {l l':List Aj} {x0 x1 x2 x3 x4 x5 x6 x7 x8 x9 x10 x11:Nat×AD×List Aj}
theorem IQ(w:Ae):CP w []:=⟨List.nodup_nil,Cc⟩
theorem eG:∀ {L:List (Nat×AD×List Aj)} {i:Nat},ME w L→L[i]? = some (b,e,l)→Ax w b e l
 | [],i,_,h=>by simp at h
 | (b',e',l')::L,0,hA,h=>by injection h with h;injection h with h1 h2;injection h2 with h2 h3;subst h1 h2 h3;exact hA.1
 | (b',e',l')::L,i+1,hA,h=>eG (L:=L) (i:=i) hA.2 h
theorem CP.g(E:CP w L)(i:Nat)(h:L[i]? = some (b,e,l)):Ax w b e l:=eG E.2 h
theorem ON{w w':Ae}:∀ {L:List (Nat×AD×List Aj)},ME w L→(∀ b e l,(b,e,l)∈L→Ax w b e l→Ax w' b e l)→ME w' L
 | [],_,_=>Cc
 | (b,e,l)::L,h,f=>⟨f b e l CC h.1,ON h.2 fun b e l hm hB=>f b e l (D4 _ hm) hB⟩
theorem CP.A(E:CP w L)(g:G w w'):CP w' L:=⟨E.1,ON E.2 fun _ _ _ _ h=>h.A g⟩
theorem CP.dr(E:CP w L):CP w.drew L:=E.A (G.drew _)
theorem W3{w:Ae}:∀ {L:List (Nat×AD×List Aj)},ME w L→∀ b∈L.map Prod.fst,b<w.heap.size
 | [],_,b,hm=>by cases hm
 | (b',e,l)::L,h,b,hm=>by
  rcases E6.1 hm with q|q;subst q;exact h.1.lt;exact W3 h.2 b q
theorem CP.Q(E:CP w L){X:List Nat}(h:∀ j∈X,j∈L.map Prod.fst):∀ j∈X,j<w.heap.size:=fun j hj=>W3 E.2 j (h j hj)
theorem CP.new(E:CP w L)(N:Ki w w' b e l):CP w' ((b,e,l)::L):=by
 refine ⟨Vm.2 ⟨fun hm=>?_,E.1⟩,N.H,(E.A N.g).2⟩;have:=W3 E.2 b hm;have:=N.y;omega
theorem CP.C(E:CP w L){row:Option Nat}(hg:w.grownBy w' row)(h:∀ b∈L.map Prod.fst,some b≠row):CP w' L :=
 ⟨E.1,ON E.2 fun b e l hm hB=>hB.C hg (h b (List.mem_map_of_mem (f:=Prod.fst) hm))⟩
theorem CP.ab(E:CP w L){row:Option Nat}{X:List Nat}(hg:w.grownBy w' row)(hn:∀ {b},b∈X→some b≠row)(h:∀ j∈L.map Prod.fst,j∈X):CP w' L:=E.C hg fun b hb=>hn (h b hb)
theorem Ln{w:Ae}{b b':Nat}{e e':AD}{l l':List Aj}(h:Ax w b e l)(h':Ax w b' e' l')(he:Ao e e'=false):b≠b':=fun q=>by
 subst q;unfold Ax at h h';rw [h] at h';injection h' with h';injection h' with _ h';subst h';simp at he
theorem CP.ae(E:CP w L){j:Nat}{e':AD}{xs:List Aj}(hg:w.grownBy w' (some j))(hB:Ax w j e' xs)(ht:(L.all fun x=>!Ao x.2.1 e')=true):CP w' L :=
 ⟨E.1,ON E.2 fun b e l hm h=>h.C hg fun q=>by
 injection q with q;have:=CW.1 ht _ hm;exact Ln h hB (by simpa using this) q⟩
theorem CP.ay(E:CP w L){base z m:Nat}{e':AD}{v:Aj}{xs:List Aj}(hO:w.ownsRow base e' z v m xs)(hg:w.grownBy w' v.ownBlock)(ht:(L.all fun x=>!Ao e' x.2.1)=true):CP w' L :=
 ⟨E.1,ON E.2 fun b e l hm h=>h.C hg fun q=>by
 have aa:=CW.1 ht _ hm;rcases hO.2 with ⟨h1,_⟩|⟨g,ab,ac,h1,h2,h3,_⟩;rw [h1] at q;cases q;rw [h1] at q;have:b=g:=by injection q
 subst this;unfold Ax at h;rw [h] at h3;injection h3 with h3;injection h3 with _ h3;subst h3;simp at aa⟩
theorem YK{w w':Ae}{j:Nat}(hg:w.grownBy w' (some j)):∀ {L:List (Nat×AD×List Aj)},j∉L.map Prod.fst→ME w L→ME w' L
 | [],_,_=>Cc
 | (b,e,l)::L,hn,h=>⟨h.1.C hg fun q=>by injection q with q;subst q;exact hn CC,YK hg (fun q=>hn (D4 _ q)) h.2⟩
theorem CP.tl{x:Nat×AD×List Aj}(E:CP w (x::L)):CP w L:=⟨(Vm.1 E.1).2,E.2.2⟩
theorem CP.hd(E:CP w ((b,e,l)::L)):b∉L.map Prod.fst:=(Vm.1 E.1).1
theorem CP.s0(E:CP w ((b,e,l)::L))(hg:w.grownBy w' (some b))(hB:Ax w' b e l'):CP w' ((b,e,l')::L):=⟨E.1,hB,YK hg E.hd E.2.2⟩
theorem CP.up{x:Nat×AD×List Aj}(E:CP w (x::L))(hg:w.grownBy w' (some b))(hm:b∈L.map Prod.fst){L':List (Nat×AD×List Aj)}(h:CP w' L')(hL:L'.map Prod.fst=L.map Prod.fst):CP w' (x::L'):=by
 refine ⟨?_,?_,h.2⟩;show (x.1::L'.map Prod.fst).Nodup;rw [hL];exact E.1;obtain ⟨b',e',aa⟩:=x;exact E.2.1.C hg fun q=>by injection q with q;subst q;exact E.hd hm
theorem CP.s1(E:CP w (x0::(b,e,l)::L))(hg:w.grownBy w' (some b))(hB:Ax w' b e l'):CP w' (x0::(b,e,l')::L):=E.up hg BR (E.tl.s0 hg hB) rfl
theorem CP.s2(E:CP w (x0::x1::(b,e,l)::L))(hg:w.grownBy w' (some b))(hB:Ax w' b e l'):CP w' (x0::x1::(b,e,l')::L):=E.up hg BR (E.tl.s1 hg hB) rfl
theorem CP.s3(E:CP w (x0::x1::x2::(b,e,l)::L))(hg:w.grownBy w' (some b))(hB:Ax w' b e l'):CP w' (x0::x1::x2::(b,e,l')::L):=E.up hg BR (E.tl.s2 hg hB) rfl
theorem CP.s4(E:CP w (x0::x1::x2::x3::(b,e,l)::L))(hg:w.grownBy w' (some b))(hB:Ax w' b e l'):CP w' (x0::x1::x2::x3::(b,e,l')::L):=E.up hg BR (E.tl.s3 hg hB) rfl
theorem CP.s5(E:CP w (x0::x1::x2::x3::x4::(b,e,l)::L))(hg:w.grownBy w' (some b))(hB:Ax w' b e l'):CP w' (x0::x1::x2::x3::x4::(b,e,l')::L):=E.up hg BR (E.tl.s4 hg hB) rfl
theorem CP.r0(E:CP w ((b,e,l)::L))(hB:Ax w b e l'):CP w ((b,e,l')::L):=⟨E.1,hB,E.2.2⟩
theorem CP.J(E:CP w ((b,e,l)::L)):Ax w b e l:=E.2.1
theorem CP.U(E:CP w (x0::(b,e,l)::L)):Ax w b e l:=E.tl.J
theorem CP.g2(E:CP w (x0::x1::(b,e,l)::L)):Ax w b e l:=E.tl.U
theorem CP.g3(E:CP w (x0::x1::x2::(b,e,l)::L)):Ax w b e l:=E.tl.g2
theorem CP.g4(E:CP w (x0::x1::x2::x3::(b,e,l)::L)):Ax w b e l:=E.tl.g3
theorem CP.g5(E:CP w (x0::x1::x2::x3::x4::(b,e,l)::L)):Ax w b e l:=E.tl.g4
theorem CP.g6(E:CP w (x0::x1::x2::x3::x4::x5::(b,e,l)::L)):Ax w b e l:=E.tl.g5
theorem CP.g7(E:CP w (x0::x1::x2::x3::x4::x5::x6::(b,e,l)::L)):Ax w b e l:=E.tl.g6
theorem CP.g8(E:CP w (x0::x1::x2::x3::x4::x5::x6::x7::(b,e,l)::L)):Ax w b e l:=E.tl.g7
def R0{α:Type}:List Bool→List α→List α
 | true::m,x::L=>x::R0 m L
 | false::m,_::L=>R0 m L
 | _,_=>[]
theorem Br{p:Prop}(h:p:=by simp [R0]):p:=h
theorem TT{α:Type}:∀ (m:List Bool) (L:List α),(R0 m L).Sublist L
 | [],L=>List.nil_sublist L
 | true::m,[]=>List.Sublist.slnil
 | false::m,[]=>List.Sublist.slnil
 | true::m,x::L=>(TT m L).cons_cons x
 | false::m,x::L=>(TT m L).cons x
theorem lH{w:Ae}:∀ {L L':List (Nat×AD×List Aj)},ME w L→L'.Sublist L→ME w L':=fun {L L'} h hs=>by
 induction hs with
 | slnil=>trivial
 | cons x hs ih=>obtain ⟨b,e,l⟩:=x;exact ih h.2
 | cons_cons x hs ih=>obtain ⟨b,e,l⟩:=x;exact ⟨h.1,ih h.2⟩
theorem CP.sel(E:CP w L)(m:List Bool):CP w (R0 m L):=⟨E.1.sublist ((TT m L).map _),lH E.2 (TT m L)⟩
theorem GX{L0:List (Nat×AD×List Aj)}(hn:(L0.map Prod.fst).Nodup)(hA:ME w L)(h:L.map Prod.fst=L0.map Prod.fst):CP w L:=⟨h▸hn,hA⟩
theorem CP.ne(E:CP w L){b b':Nat}{e e':AD}{l l':List Aj}(i j:Nat)(hi:L[i]? = some (b,e,l))(hj:L[j]? = some (b',e',l'))(ac:Ao i j=false):b≠b':=fun q=>by
 have h:=E.1;have h1:(L.map Prod.fst)[i]? = some b:=by rw [List.getElem?_map,hi];rfl
 have h2:(L.map Prod.fst)[j]? = some b':=by rw [List.getElem?_map,hj];rfl
 obtain ⟨ab,AU⟩:=FI.1 h1;obtain ⟨aa,e2⟩:=FI.1 h2;have hp:=List.pairwise_iff_getElem.1 h;rcases Nat.lt_trichotomy i j with c|c|c;exact hp i j ab aa c (AU.trans (q.trans e2.symm));subst c;simp at ac;exact hp j i aa ab c (e2.trans (q.symm.trans AU.symm))
end
section
variable {P:AJ} {n:Nat} {σ:List Ce} {c:Prop} {wb:Ae} {ty:AD} {v:Aj}
end
end Go.Rk
namespace Go.Rk
open Go.Proofs
open Go
@[reducible] noncomputable def An:AJ:=Tryz.prog
theorem CG:An.follows .mixedOrders=true:=Ag
theorem vZ:CD An 10=true:=Ag
theorem rQ:CD An 11=true:=Ag
theorem Zq:CD An 12=true:=Ag
theorem X5:CD An 13=true:=Ag
theorem oO:CD An 14=true:=Ag
theorem Wh:CD An 15=true:=Ag
theorem nY:CD An 16=true:=Ag
theorem dV:CD An 18=true:=Ag
theorem Ado:CD An 21=true:=Ag
theorem RU:CD An 26=true:=Ag
theorem Agw:CD An 27=true:=Ag
theorem Zv:CD An 28=true:=Ag
theorem vU:CD An 29=true:=Ag
theorem XH:CD An 30=true:=Ag
theorem ZX:CD An 31=true:=Ag
theorem G1:CD An 32=true:=Ag
theorem uM:CD An 44=true:=Ag
theorem yU:CD An 46=true:=Ag
theorem Y1:CD An 47=true:=Ag
theorem uE:CD An 50=true:=Ag
theorem rI:CD An 51=true:=Ag
theorem UV:CD An 52=true:=Ag
theorem iM:CD An 53=true:=Ag
theorem aO:CD An 54=true:=Ag
theorem WY:CD An 55=true:=Ag
theorem Tl:CD An 56=true:=Ag
theorem PS:CD An 57=true:=Ag
theorem hU:CD An 58=true:=Ag
theorem Aaq:CD An 59=true:=Ag
theorem U7:CD An 61=true:=Ag
theorem XA:CD An 65=true:=Ag
theorem TJ:CD An 77=true:=Ag
theorem oH:CD An 78=true:=Ag
theorem Abb:CD An 79=true:=Ag
theorem WQ:CD An 80=true:=Ag
theorem cB:CD An 81=true:=Ag
theorem QT:CD An 82=true:=Ag
theorem ZW:CD An 85=true:=Ag
theorem Yt:CD An 86=true:=Ag
theorem S8:CD An 87=true:=Ag
theorem iZ:CD An 94=true:=Ag
theorem Ack:CD An 96=true:=Ag
theorem NB:CD An 97=true:=Ag
theorem oV:CD An 102=true:=Ag
theorem Rz:CD An 104=true:=Ag
theorem Ot:CD An 106=true:=Ag
theorem kV:CD An 107=true:=Ag
theorem yY:CD An 108=true:=Ag
theorem Zl:CD An 110=true:=Ag
theorem JF:CD An 111=true:=Ag
theorem T5:CD An 112=true:=Ag
theorem LY:CD An 113=true:=Ag
theorem KZ:CD An 114=true:=Ag
theorem yG:CD An 115=true:=Ag
theorem Adg:CD An 116=true:=Ag
theorem XW:CD An 127=true:=Ag
theorem Aap:CD An 129=true:=Ag
theorem Agh:CD An 130=true:=Ag
theorem XZ:CD An 131=true:=Ag
theorem tH:CD An 133=true:=Ag
theorem zQ:CD An 134=true:=Ag
theorem nP:CD An 137=true:=Ag
theorem WH:CD An 138=true:=Ag
theorem lD:CD An 141=true:=Ag
theorem Ui:CD An 142=true:=Ag
theorem rS:CD An 147=true:=Ag
theorem pW:CD An 148=true:=Ag
theorem yH:CD An 155=true:=Ag
theorem VR:CD An 159=true:=Ag
theorem vO:CD An 161=true:=Ag
theorem Aes:CD An 169=true:=Ag
theorem iO:CD An 175=true:=Ag
theorem Wt:CD An 176=true:=Ag
theorem Afb:CD An 177=true:=Ag
theorem bF:CD An 178=true:=Ag
theorem Adt:CD An 179=true:=Ag
theorem fB:CD An 180=true:=Ag
theorem nU:CD An 181=true:=Ag
theorem Aac:CD An 183=true:=Ag
theorem I2:Im An 3=some 1:=Ag
theorem MP:Gh An 3=some (.int .i64 0):=Ag
theorem Cb:GK An 3=true:=Ag
theorem Wc:Gh An 4=some (.bool false):=Ag
theorem Z8:An.underlying 4=some .bool:=Ag
theorem DW:GK An 9=true:=Ag
theorem JW:Kd An 9=true:=Ag
theorem kJ:An.isIface 20=true:=Ag
theorem Me:Im An 22=some 1:=Ag
theorem Bh:GK An 22=true:=Ag
theorem AC:Gf An 22=some (26,9,104):=Ag
theorem ET:Im An 24=some 2:=Ag
theorem FF:Gh An 24=some (.agg #[.int .i64 0,.string ⟨#[]⟩]):=Ag
theorem Cf:I0 An 24=some 2:=Ag
theorem Iv:PO An 24=some [0,1]:=Ag
theorem Rd:EA An 24 0=some 0:=Ag
theorem VC:EA An 24 1=some 1:=Ag
theorem Ia:Ll An 24=some [(0,1),(1,1)]:=Ag
theorem Fm:Im An 26=some 9:=Ag
theorem Cp:Gh An 26=some (.agg #[.int .i64 0,.string ⟨#[]⟩,.int .i64 0,.int .i64 0,.slice none 0 0,.int .i64 0,.string ⟨#[]⟩,.int .i64 0,.int .i64 0]):=Ag
theorem A3:I0 An 26=some 9:=Ag
theorem FP:EA An 26 0=some 0:=Ag
theorem E2:EA An 26 1=some 1:=Ag
theorem Ku:EA An 26 2=some 2:=Ag
theorem H7:EA An 26 3=some 3:=Ag
theorem AY:EA An 26 4=some 4:=Ag
theorem Fg:EA An 26 5=some 5:=Ag
theorem OE:EA An 26 6=some 7:=Ag
theorem T8:EA An 26 7=some 8:=Ag
theorem MV:Ll An 26=some [(0,1),(1,1),(2,1),(3,1),(4,1),(5,2),(7,1),(8,1)]:=Ag
theorem SL:Im An 30=some 1:=Ag
theorem jS:Gh An 30=some (.int .i64 0):=Ag
theorem NI:GK An 30=true:=Ag
theorem jG:Gh An 48=some (.agg #[.int .i64 0,.int .i64 0]):=Ag
theorem wP:QR An 48=true:=Ag
theorem gU:EA An 48 0=some 0:=Ag
theorem iG:EA An 48 1=some 1:=Ag
theorem Yy:Ll An 48=some [(0,1),(1,1)]:=Ag
theorem TU:GK An 51=true:=Ag
theorem VW:GK An 52=true:=Ag
theorem gJ:GK An 53=true:=Ag
theorem Sj:GK An 54=true:=Ag
theorem QA:Im An 55=some 1:=Ag
theorem Kg:GK An 55=true:=Ag
theorem Kl:Gf An 55=some (82,1,24):=Ag
theorem Pp:Im An 56=some 1:=Ag
theorem Ol:GK An 56=true:=Ag
theorem Jm:Gf An 56=some (3,1,8):=Ag
theorem Oy:Im An 57=some 1:=Ag
theorem Nm:GK An 57=true:=Ag
theorem Jb:Gf An 57=some (24,2,24):=Ag
theorem aZ:Gh An 59=some (.agg #[.int .i64 0,.string ⟨#[]⟩,.int .i64 0,.int .i64 0,.slice none 0 0,.int .i64 0,.string ⟨#[]⟩,.int .i64 0,.int .i64 0,.map none,.map none,.map none,.map none,.slice none 0 0,.slice none 0 0,.slice none 0 0]):=Ag
theorem X1:EA An 59 0=some 0:=Ag
theorem Uy:EA An 59 1=some 9:=Ag
theorem Vw:EA An 59 2=some 10:=Ag
theorem iV:EA An 59 3=some 11:=Ag
theorem Rb:EA An 59 4=some 12:=Ag
theorem JK:EA An 59 5=some 13:=Ag
theorem Tk:EA An 59 6=some 14:=Ag
theorem O7:EA An 59 7=some 15:=Ag
theorem bE:Ll An 59=some [(0,9),(9,1),(10,1),(11,1),(12,1),(13,1),(14,1),(15,1)]:=Ag
theorem Tt:Im An 61=some 4:=Ag
theorem Pg:Gh An 61=some (.agg #[.int .i64 0,.slice none 0 0,.int .i64 0,.string ⟨#[]⟩]):=Ag
theorem aF:I0 An 61=some 4:=Ag
theorem fD:EA An 61 0=some 0:=Ag
theorem UD:EA An 61 1=some 1:=Ag
theorem TS:EA An 61 2=some 2:=Ag
theorem Xg:Ll An 61=some [(0,1),(1,1),(2,2)]:=Ag
theorem Sz:Im An 65=some 1:=Ag
theorem Md:GK An 65=true:=Ag
theorem Lq:Gf An 65=some (96,6,64):=Ag
theorem jA:Im An 67=some 17:=Ag
theorem fV:Gh An 67=some (.agg #[.int .i64 0,.string ⟨#[]⟩,.int .i64 0,.int .i64 0,.slice none 0 0,.int .i64 0,.string ⟨#[]⟩,.int .i64 0,.int .i64 0,.slice none 0 0,.int .i64 0,.int .i64 0,.slice none 0 0,.int .i64 0,.string ⟨#[]⟩,.int .i64 0,.int .i64 0]):=Ag
theorem YB:I0 An 67=some 17:=Ag
theorem OC:EA An 67 0=some 0:=Ag
theorem LI:EA An 67 1=some 9:=Ag
theorem XU:EA An 67 2=some 10:=Ag
theorem R6:EA An 67 3=some 11:=Ag
theorem QD:EA An 67 4=some 12:=Ag
theorem fR:EA An 67 5=some 13:=Ag
theorem Th:EA An 67 6=some 15:=Ag
theorem Rq:EA An 67 7=some 16:=Ag
theorem UO:Im An 70=some 1:=Ag
theorem O9:GK An 70=true:=Ag
theorem MG:Gf An 70=some (94,3,32):=Ag
theorem Y4:Im An 82=some 1:=Ag
theorem WR:Gh An 82=some (.slice none 0 0):=Ag
theorem Pn:GK An 82=true:=Ag
theorem OH:Gf An 82=some (84,5,56):=Ag
theorem Rs:Gh An 84=some (.agg #[.string ⟨#[]⟩,.int .i64 0,.string ⟨#[]⟩,.int .i64 0,.int .i64 0]):=Ag
theorem S4:I0 An 84=some 5:=Ag
theorem jR:EA An 84 0=some 0:=Ag
theorem aP:EA An 84 1=some 1:=Ag
theorem cZ:EA An 84 2=some 3:=Ag
theorem X9:EA An 84 3=some 4:=Ag
theorem Vx:Ll An 84=some [(0,1),(1,2),(3,1),(4,1)]:=Ag
theorem Oj:Gh An 94=some (.agg #[.int .i64 0,.string ⟨#[]⟩,.int .i64 0]):=Ag
theorem dD:I0 An 94=some 3:=Ag
theorem UM:Ll An 94=some [(0,1),(1,1),(2,1)]:=Ag
theorem Td:Gh An 96=some (.agg #[.string ⟨#[]⟩,.int .i64 0,.string ⟨#[]⟩,.int .i64 0,.int .i64 0,.int .i64 0]):=Ag
theorem X8:I0 An 96=some 6:=Ag
theorem eJ:EA An 96 0=some 0:=Ag
theorem ZR:EA An 96 1=some 1:=Ag
theorem kB:EA An 96 2=some 3:=Ag
theorem jL:EA An 96 3=some 4:=Ag
theorem Vn:EA An 96 4=some 5:=Ag
theorem dF:Ll An 96=some [(0,1),(1,2),(3,1),(4,1),(5,1)]:=Ag
theorem eQ:Gh An 103=some (.nilFunc):=Ag
theorem UQ:GK An 103=true:=Ag
theorem hJ:I0 An 108=some 13:=Ag
theorem sY:TO An 108=some 13:=Ag
theorem Ub:Gf An 115=some (103,1,8):=Ag
theorem Nc:EA An 127 0=some 0:=Ag
theorem Ib:EA An 127 1=some 1:=Ag
theorem PU:EA An 127 2=some 2:=Ag
theorem XK:EA An 127 3=some 3:=Ag
theorem QF:Gf An 130=some (134,3,40):=Ag
theorem PK:Gh An 134=some (.agg #[.string ⟨#[]⟩,.int .i64 0,.string ⟨#[]⟩]):=Ag
theorem Xd:EA An 134 0=some 0:=Ag
theorem XP:EA An 134 1=some 1:=Ag
theorem Ve:Ll An 134=some [(0,1),(1,2)]:=Ag
theorem Yb:An.isIface 146=true:=Ag
theorem Yl:I0 An 149=some 27:=Ag
theorem rM:TO An 149=some 27:=Ag
end Go.Rk
namespace Go.Rk
open Go.Proofs
open Go Go.RowKit
def wd(ds:List Deferred)(a:Act):Act:={ a with defers:=ds }
theorem OW(ds:List Deferred)(a:Act)(d:Option Tmp)(v:Aj):(wd ds a).put d v=wd ds (a.put d v):=by cases d <;> rfl
theorem bK(a:Act):wd a.defers (wd [] a)=a:=by cases a;rfl
theorem Sn{a:Act}(h:a.defers=[])(ds:List Deferred):wd [] (wd ds a)=a:=by cases a;cases h;rfl
theorem Cl.a5{n:Nat}{σ:List Ce}{a:Act}(h:Cl n σ a)(ds:List Deferred):wd [] (wd ds a)=a:=Sn h.2.1 ds
theorem Nr(a:Act)(d:Option Tmp)(v:Aj):(a.put d v).defers=a.defers:=by cases d <;> rfl
abbrev Fw:=List Deferred→Act→Ae→Prop
def JX(N:Fw)(a:Act)(w:Ae):Prop:=N a.defers (wd [] a) w
theorem FL.wd{P:AJ}{Z:List Bf→Fw}{ops:Array Oper}{cl:Nat→Nat}{lv:Nat→Bool}{W0:Ae}{N:Fw}(ds:List Deferred):∀ (L:List Nat) (a:Act) (w:Ae),a.defers=[]→
  FL P (fun ch a w=>Z ch ds a w) ops cl lv W0 (N ds) L a w→FL P (fun ch=>JX (Z ch)) ops cl lv W0 (JX N) L (wd ds a) w
 | [],a,w,h0,h=>by
  show N ds (Go.Rk.wd [] (Go.Rk.wd ds a)) w;rw [Sn h0];exact h
 | i::rest,a,w,h0,⟨o,ho,hb⟩=>by
  refine ⟨o,ho,?_⟩;by_cases hc:cl i=0∨cl i=3;rw [CO hc] at hb ⊢;obtain ⟨v,h1,h2,h3⟩:=hb;refine ⟨v,h1,h2,?_⟩;rw [OW];exact FL.wd ds rest _ _ ((Nr a o.dst v).trans h0) h3;rw [CN hc] at hb ⊢;by_cases hw:CY o (yielded ops a.tmps)=true;rw [CO hw] at hb;refine (CO (show CY o (yielded ops (Go.Rk.wd ds a).tmps)=true from hw)).mpr ?_;refine JV.turn (a:=a) (b:=Go.Rk.wd ds a) J (fun ch w' hz=>?_) (fun v w' _ hk=>?_) hb;show Z ch ds (Go.Rk.wd [] (Go.Rk.wd ds a)) w';rw [Sn h0];exact hz;rw [OW];exact FL.wd ds rest _ _ ((Nr a o.dst v).trans h0) hk;rw [CN hw] at hb;refine (CN (show ¬ CY o (yielded ops (Go.Rk.wd ds a).tmps)=true from hw)).mpr ?_;rw [OW];exact FL.wd ds rest _ _ ((Nr a o.dst undef).trans h0) hb
theorem Gx.wd{P:AJ}{Z:List Bf→Fw}{ops:Array Oper}{cl:Nat→Nat}{wt:Nat→Nat→Bool}{row:H8}{N:Fw}(ds:List Deferred):∀ (m:Nat) (L:List Nat) (a:Act) (w:Ae),a.defers=[]→
  Gx P (fun ch a w=>Z ch ds a w) ops cl wt row (N ds) m L a w→Gx P (fun ch=>JX (Z ch)) ops cl wt row (JX N) m L (wd ds a) w
 | 0,L,a,w,h0,h=>⟨h.1,by
  show N ds (Go.Rk.wd [] (Go.Rk.wd ds a)) w;rw [Sn h0];exact h.2⟩
 | m+1,L,a,w,h0,.inl ⟨r,hr,aa,hc,o,ho,v,h1,h2,h3⟩=>.inl ⟨r,hr,aa,hc,o,ho,v,h1,h2,by
  rw [OW];exact Gx.wd ds m _ _ _ ((Nr a o.dst v).trans h0) h3⟩
 | m+1,L,a,w,h0,.inr ⟨hno,hall⟩=>.inr ⟨hno,fun j hj aa=>by
  obtain ⟨o,ho,hb⟩:=hall j hj aa;refine ⟨o,ho,?_⟩;by_cases hw:CY o (yielded ops a.tmps)=true;rw [CO hw] at hb;refine (CO (show CY o (yielded ops (Go.Rk.wd ds a).tmps)=true from hw)).mpr ?_;refine MA.turn (a:=a) (b:=Go.Rk.wd ds a) J (fun ch w' hz=>?_) (fun v w' _ hk=>?_) hb;show Z ch ds (Go.Rk.wd [] (Go.Rk.wd ds a)) w';rw [Sn h0];exact hz;rw [OW];exact Gx.wd ds m _ _ _ ((Nr a o.dst v).trans h0) hk;rw [CN hw] at hb;refine (CN (show ¬ CY o (yielded ops (Go.Rk.wd ds a).tmps)=true from hw)).mpr ?_;rw [OW];exact Gx.wd ds m _ _ _ ((Nr a o.dst undef).trans h0) hb⟩
def Pe(N:Fw)(X:List (Nat×Fw))(T:Fw)(Z:List Bf→Fw):Exit→Act→Ae→Prop
 | .normal,a,w=>JX N a w
 | .ret,a,w=>JX T a w
 | .exit id,a,w=>match X.lookup id with|some k=>JX k a w|none=>False
 | .panic ch,a,w=>JX (Z ch) a w
 | _,_,_=>False
def Hw(P:AJ)(ρ:Option Nat)(n:Nat)(ds:List Deferred)(c:Code)(N:Fw)(X:List (Nat×Fw))(T:Fw)(Z:List Bf→Fw)(σ:List Ce)(w:Ae):Prop :=
 ∀ a,Cl n σ a→c.wpIn (KC ρ) 0 P (Pe N X T Z) (wd ds a) w
section
variable {P:AJ} {ρ:Option Nat} {n:Nat} {ds:List Deferred} {N T:Fw} {X:List (Nat×Fw)} {Z:List Bf→Fw} {σ:List Ce} {w:Ae}
theorem Nl{c:Code}(τ:List Ce)(hs:H0 τ σ)(h:Hw P ρ n ds c N X T Z τ w):Hw P ρ n ds c N X T Z σ w:=fun a ha=>h a (ha.sub hs)
theorem FO{x y:Code}(h:∀ K:Fw,(∀ ds τ u,Hw P ρ n ds y N X T Z τ u→∀ a,Cl n τ a→K ds a u)→Hw P ρ n ds x K X T Z σ w):Hw P ρ n ds (.seq x y) N X T Z σ w:=fun a ha=>by
 refine wpIn_seq (wpIn_mono (h (fun ds a w=>y.wpIn (KC ρ) 0 P (Pe N X T Z) (wd ds a) w) (fun ds τ u hy a ha=>hy a ha) a ha) (fun e a w q=>?_))
 cases e with
 | normal =>
  have q:y.wpIn (KC ρ) 0 P (Pe N X T Z) (wd a.defers (wd [] a)) w:=q;rw [bK] at q;exact q
 | _=>exact q
theorem Tx(h:∀ a,Cl n σ a→N ds a w):Hw P ρ n ds .skip N X T Z σ w:=fun a ha=>wpIn_skip (show N ds (wd [] (wd ds a)) w by rw [ha.a5];exact h a ha)
theorem R8(h:∀ a,Cl n σ a→T ds a w):Hw P ρ n ds .ret N X T Z σ w:=fun a ha=>wpIn_ret (show T ds (wd [] (wd ds a)) w by rw [ha.a5];exact h a ha)
theorem uC{id:Nat}{k:Fw}(hk:X.lookup id=some k)(h:∀ a,Cl n σ a→k ds a w):Hw P ρ n ds (.exit id) N X T Z σ w:=fun a ha=>wpIn_exit (by
 show match X.lookup id with|some k=>JX k (wd ds a) w|none=>False
 rw [hk];show k ds (wd [] (wd ds a)) w;rw [ha.a5];exact h a ha)
theorem Us{id:Nat}{c:Code}(h:Hw P ρ n ds c N ((id,N)::X) T Z σ w):Hw P ρ n ds (.block id c) N X T Z σ w:=fun a ha=>by
 refine wpIn_block (wpIn_mono (h a ha) (fun e a w q=>?_))
 cases e with
 | exit id' =>
  simp only [Exit.inBlock];by_cases he:id'=id;subst he;rw [CO rfl];simpa [Pe,List.lookup] using q;rw [CN he];simp only [Pe] at q ⊢;rw [List.lookup_cons] at q;have:(id' == id)=false:=by simpa using he
  rw [this] at q;exact q
 | _=>exact q
theorem RX{x:Bl}{b:Bool}{p q:Code}(hx:BI n σ True x (.bool b))(h1:b=true→Hw P ρ n ds p N X T Z σ w)(h2:b=false→Hw P ρ n ds q N X T Z σ w):Hw P ρ n ds (.cond x p q) N X T Z σ w:=fun a ha =>
 wpIn_cond_split (show (wd ds a).eval x = .bool b from hx a ha Cc) (fun h=>h1 h a ha) (fun h=>h2 h a ha)
theorem Gn{id:Nat}{l:List Oper}(cl:List Nat)(h:BK P (fun ch a w=>Z ch ds a w) l cl [] w n (N ds) 0 l σ w):Hw P ρ n ds (.region id l.toArray false) N X T Z σ w:=fun a ha=>by
 have h1:=h (fun j o ho=>by simpa using ho) a ha;have e:JN []=fun _=>true:=by funext i;simp [JN]
 rw [e] at h1;have h2:=FL.wd (Z:=Z) (N:=N) ds _ a w ha.2.1 h1;rw [show List.range' 0 l.length=Cj l.toArray.size by rw [List.range_eq_range'];simp] at h2;exact Wx (Z:=fun ch=>JX (Z ch)) (fun ch a w h=>h) h2
theorem nW{c:Code}{α:Type}(I:α→Ae→Prop)(σf:α→List Ce)(df:α→List Deferred)(μ:α→Nat)(x0:α)(h0:I x0 w)(hd:df x0=ds)(hs:H0 (σf x0) σ)
 (round:∀ x w,I x w→Hw P ρ n (df x) c (fun ds' a' w'=>∃ y,df y=ds'∧Cl n (σf y) a'∧I y w'∧μ y < μ x) X T Z (σf x) w):Hw P ρ n ds (.loop c) N X T Z σ w:=fun a ha=>by
 intro b k cs ac hb hr
 have ah:∀ m x a w,μ x=m→Cl n (σf x) a→I x w→
   ∃ e a' w',Pe N X T Z e a' w'∧ArrivesIn (Machine.fenced P (KC ρ)) P (lone (b.atR (wd (df x) a) (.code c :: .inLoop c::k)) cs w) b k cs e a' w':=by
  intro m
  induction m using Nat.strongRecOn with
  | _ m ih =>
   intro x a w hm hk hI
   obtain ⟨e,a₁,w₁,hq,aa⟩:=round x w hI a hk b (.inLoop c::k) cs ac hb hr
   cases e with
   | normal =>
    obtain ⟨y,ai,ae,ad,ag⟩:=hq
    obtain ⟨e₂,a₂,w₂,af,ab⟩:=ih (μ y) (hm▸ag) y _ w₁ rfl ae ad
    rw [ai,bK] at ab
    exact ⟨e₂,a₂,w₂,af,.of_steps (StepsIn.trans aa (.one (fenced_calm hb hr rfl) stepR_inLoop)) ab⟩
   | exit id=>exact ⟨.exit id,a₁,w₁,hq,.pass (x:=.inLoop c) rfl (fun _ _=>.inl BR) aa⟩
   | goto l=>exact hq.elim
   | ret=>exact ⟨.ret,a₁,w₁,hq,.pass (x:=.inLoop c) rfl (fun _ _=>.inl BR) aa⟩
   | panic ch=>exact ⟨.panic ch,a₁,w₁,hq,.pass (x:=.inLoop c) rfl (fun _ _=>.inl BR) aa⟩
   | outgrown=>exact hq.elim
 obtain ⟨e,a',w',hq,aa⟩:=ah _ x0 a w rfl (ha.sub hs) h0;rw [hd] at aa;exact ⟨e,a',w',hq,.of_steps (.one (fenced_calm hb hr rfl) stepR_loop) aa⟩
theorem qP{c:Code}{α:Type}(I:α→Ae→Prop)(σc:List Ce)(σf:α→List Ce)(μ:α→Nat)(x0:α)(h0:I x0 w)(hs:H0 (σf x0 ++ σc) σ)
 (round:∀ x w,I x w→Hw P ρ n ds c (fun ds' a' w'=>ds'=ds∧∃ y,Cl n (σf y ++ σc) a'∧I y w'∧μ y < μ x) X T Z (σf x ++ σc) w):Hw P ρ n ds (.loop c) N X T Z σ w:=by
 refine nW I (fun x=>σf x ++ σc) (fun _=>ds) μ x0 h0 J hs fun x w h=>fun a ha=>wpIn_mono (round x w h a ha) (fun e a w q=>?_)
 cases e with
 | normal=>obtain ⟨q1,y,q2⟩:=q;exact ⟨y,q1.symm,q2⟩
 | _=>exact q
end
def Vp(R:Aj→Ae→Prop)(Rp:List Bf→Ae→Prop)(e:Ending)(w:Ae):Prop:=(∃ v,e = .returned v∧R v w)∨(∃ ch,e = .panicked ch∧Rp ch w)
def Gg(P:AJ)(f:FuncId)(args:Array Aj)(w:Ae)(R:Aj→Ae→Prop)(Rp:List Bf→Ae→Prop):Prop:=Calls P f args w (Vp R Rp)
theorem Gg.mono{P:AJ}{f:FuncId}{args:Array Aj}{w:Ae}{R R':Aj→Ae→Prop}{Rp aa:List Bf→Ae→Prop}(h:Gg P f args w R Rp)(hr:∀ v w',R v w'→R' v w')(hp:∀ ch w',Rp ch w'→aa ch w'):Gg P f args w R' aa :=
 Calls.mono h fun _ _ h=>h.imp (fun ⟨v,e,k⟩=>⟨v,e,hr v _ k⟩) (fun ⟨ch,e,k⟩=>⟨ch,e,hp ch _ k⟩)
theorem Gg.ret{P:AJ}{f:FuncId}{args:Array Aj}{w:Ae}{R:Aj→Ae→Prop}{Rp:List Bf→Ae→Prop}(h:Gg P f args w R Rp)(hp:∀ ch w',¬ Rp ch w'):Bz P f args w R :=
 Calls.mono h fun _ _ h=>h.elim id fun ⟨_,_,k⟩=>absurd k (hp _ _)
@[reducible] def Ahl(l:Nat):Aj:=.func (.yield l) #[] #[]
section
variable {P:AJ} {Z:List Bf→Act→Ae→Prop} {ops:List Oper} {cl:List Nat} {lv:List Bool} {W0:Ae} {n:Nat} {K:Act→Ae→Prop} {k:Nat} {rest:List Oper} {σ:List Ce} {w:Ae} {d:Nat} {op:Op} {ty:AD} {pos:String} {after:Array Edge} {v:Aj}
theorem Mp{f:FuncId}{args:Array Aj}{R:Aj→Ae→Prop}{Rp:List Bf→Ae→Prop}(hb:(!Ao (Bw cl k) 0 && !Ao (Bw cl k) 3&&AA d n)=true)(hr:OU P n σ True w op ty f args)(hC:Gg P f args w R Rp)
 (hz:∀ ch w',Rp ch w'→∀ a,Cl n σ a→Z ch a w')
 (h:∀ v w',R v w'→(Bw cl k=1→G w w')∧BK P Z ops cl lv W0 n K (k+1) rest ((d,True,v) :: σ) w') :
 BK P Z ops cl lv W0 n K k (⟨some d,op,ty,pos,after,none⟩::rest) σ w:=.mk fun hl a ha=>by
 obtain ⟨h0,h1⟩:=Mh hl;simp only [A2,Bool.not_eq_true'] at hb;rw [Cq,Du];refine ⟨_,h0,?_⟩;rw [CN (fun he=>by rcases he with he|he <;> rw [he] at hb <;> simp at hb),CO R9]
 refine .inr (.inr (.inl ⟨f,args,hr _ _ _ _ a ha Cc,Calls.mono hC fun e w' h'=>?_⟩));rcases h' with ⟨v,he,hv⟩|⟨ch,he,hp⟩;obtain ⟨q1,q2⟩:=h v w' hv;exact .inl ⟨v,he,fun hh=>q1 (by simpa using hh),q2 h1 _ (ha.put hb.2 (fun _=>rfl) (fun hn=>absurd Cc hn))⟩;exact .inr ⟨ch,he,hz ch w' hp a ha⟩
end
def NH(P:AJ)(fn:Func)(R:Aj→Ae→Prop)(Rp:List Bf→Ae→Prop):Fw:=fun ds a w=>LeavesInM Fence.wide 0 P fn a.tmps (Vp R Rp) ds .returning w
def Ny(P:AJ)(fn:Func)(R:Aj→Ae→Prop)(Rp:List Bf→Ae→Prop)(ch:List Bf):Fw:=fun ds a w=>LeavesInM Fence.wide 0 P fn a.tmps (Vp R Rp) ds (.panicking ch) w
theorem UX{P:AJ}{f:FuncId}{fn:Func}{c:Code}{args:List Aj}{w:Ae}{R:Aj→Ae→Prop}{Rp:List Bf→Ae→Prop}{m:Nat}(hf:P.funcs[f]? = some fn)(hb:fn.body=some c)(hm:args.length+(fn.ntmps-args.length)=m)
 (σ0:List Ce) (hs:H0 σ0 (JJ 0 args)) (hh:Hw P none m [] c (NH P fn R Rp) [] (NH P fn R Rp) (Ny P fn R Rp) σ0 w):Gg P f args.toArray w R Rp:=by
 have h0:=hh { tmps:=args.toArray++Gq (fn.ntmps-args.toArray.size) undef,defers:=[] } (Cl.sub (σ:=JJ 0 args) ?_ hs);refine callsIn_wide.1 (callsIn_of_wp_marks (F:=Fence.wide) (n:=0) hf hb Cc (wpIn_mono (F:=Fence.wide) h0 (fun e a w q=>?_)));rotate_left
 ·refine ⟨by simp [← hm],rfl,fun t c' v hl=>?_⟩
  obtain ⟨rfl,_,h3⟩:=PH args 0 t c' v hl;refine ⟨fun _=>?_,fun hn=>absurd Cc hn⟩;rw [Jz] at h3;have aa:t<args.length:=(FI.1 h3).1;simp [Kh,aa,h3];simpa [aa] using h3
 cases e with
  | normal=>exact q
  | ret=>exact q
  | exit id=>exact q.elim
  | goto l=>exact q.elim
  | panic ch=>exact q
  | outgrown=>exact q.elim
section
variable {P:AJ} {n:Nat} {fn:Func} {R:Aj→Ae→Prop} {Rp:List Bf→Ae→Prop} {σ:List Ce} {w:Ae} {ds:List Deferred}
theorem Q7(h:∀ a,Cl n σ a→bodyPost P fn (fun e w'=>∃ v,e = .returned v∧R v w') .ret a w):∀ a,Cl n σ a→NH P fn R Rp [] a w:=fun a ha=>by
 have h1:=h a ha;unfold bodyPost at h1;obtain ⟨hd,v,hr,v',e,hv⟩:=h1;injection e with e;subst e;exact ⟨_,hr,.inl ⟨_,rfl,hv⟩⟩
theorem oN{ch:List Bf}(h:Rp ch w):∀ a,Cl n σ a→Ny P fn R Rp ch [] a w:=fun a ha=>.inr ⟨_,rfl,h⟩
@[reducible] def Ahd(db:Nat):Deferred:={ target:=.collected db,args:=#[] }
def LO(P:AJ)(f:FuncId)(args:Array Aj)(w:Ae)(R:Aj→Ae→Prop):Prop :=
 ∃ fn c,P.funcs[f]? = some fn∧fn.body=some c∧c.wp P (bodyPost P fn (fun e w'=>∃ v,e = .returned v∧R v w')) { tmps:=args++Gq (fn.ntmps-args.size) undef,defers:=[] } w
theorem LO.ret{P:AJ}{f:FuncId}{args:Array Aj}{w:Ae}{R:Aj→Ae→Prop}(h:LO P f args w R):Bz P f args w R:=by
 obtain ⟨fn,c,hf,hb,h⟩:=h;exact calls_of_wp hf hb h
theorem LO.mono{P:AJ}{f:FuncId}{args:Array Aj}{w:Ae}{R R':Aj→Ae→Prop}(h:LO P f args w R)(hr:∀ v w',R v w'→R' v w'):LO P f args w R':=by
 obtain ⟨fn,c,hf,hb,h⟩:=h;refine ⟨fn,c,hf,hb,wp_mono h fun e a w q=>?_⟩;unfold bodyPost at q ⊢
 split at q <;> first
  | (obtain ⟨q0,v,q1,v',q3,q4⟩:=q;exact ⟨q0,v,q1,v',q3,hr _ _ q4⟩)
  | (obtain ⟨q1,v',q3,q4⟩:=q;exact ⟨q1,v',q3,hr _ _ q4⟩)
  | (obtain ⟨v',q3,q4⟩:=q;exact ⟨v',q3,hr _ _ q4⟩)
  | exact q.elim
theorem bC{f:FuncId}{fn:Func}{c:Code}{args:List Aj}{R:Aj→Ae→Prop}{m:Nat}(hf:P.funcs[f]? = some fn)(hb:fn.body=some c)(hm:args.length+(fn.ntmps-args.length)=m)
 (σ0:List Ce) (hs:H0 σ0 (JJ 0 args))
 (hh:Se P m c (fun a w=>bodyPost P fn (fun e w'=>∃ v,e = .returned v∧R v w') .normal a w) [] (fun a w=>bodyPost P fn (fun e w'=>∃ v,e = .returned v∧R v w') .ret a w)
 σ0 w):LO P f args.toArray w R:=by
 refine ⟨fn,c,hf,hb,(Code.wp_mono (fun e a w q=>?_) (hh _ (Cl.sub (σ:=JJ 0 args) ?_ hs)))⟩
 cases e with
 | normal=>exact q
 | ret=>exact q
 | panic ch=>exact q.2.elim
 | _=>exact q.elim
 refine ⟨by simp [← hm],rfl,fun t c' v hl=>?_⟩;obtain ⟨rfl,_,h3⟩:=PH args 0 t c' v hl;refine ⟨fun _=>?_,fun hn=>absurd Cc hn⟩;rw [Jz] at h3;have aa:t<args.length:=(FI.1 h3).1;simp [Kh,aa,h3];simpa [aa] using h3
theorem ZZ{f:FuncId}{args:Array Aj}{u:FrameMode}{w:Ae}{R:Aj→Ae→Prop}(h:LO P f args w R):CallsDIn Fence.wide (0-1) P f args u w fun e u' w'=>u'=u∧∃ v,e = .returned v∧R v w':=by
 obtain ⟨fn,c,hf,hb,h⟩:=h;exact callsDIn_of_wp hf hb Cc (wpIn_wide.2 h)
@[reducible] def Nf(f:Nat)(cs args:Array Aj):Deferred:={ target:=.fn (.func f) cs,args:=args }
theorem VF{f:Nat}{cs args:Array Aj}{R':Aj→Ae→Prop}(aa:CD P f=true)(hC:LO P f (args++cs) w R')(h:∀ v w',R' v w'→∀ a,Cl n σ a→NH P fn R Rp ds a w'):∀ a,Cl n σ a→NH P fn R Rp (Nf f cs args::ds) a w:=fun a ha=>by
 refine ⟨by simp,.inr ⟨(fun h=>by cases h),.func f,cs,f,args++cs,rfl,Sq aa _ _,fun _ _=>Cc,?_⟩⟩;have h1:=ZZ (u:=.returning) hC;refine ⟨h1.1,fun c ab hu hr=>?_⟩;obtain ⟨e,u',w',fr,⟨rfl,v,rfl,hv⟩,h2⟩:=h1.2 c ab hu hr;refine ⟨.returned v,_,w',fr,?_,h2⟩;show LeavesInM _ _ _ _ _ _ _ (settle .returning) _;exact h v w' hv a ha
theorem nS{f:Nat}{cs args:Array Aj}{ch:List Bf}{R':Aj→Ae→Prop}(aa:CD P f=true)(hs:settle (.panicking ch) = .panicking ch)(hC:LO P f (args++cs) w R')(h:∀ v w',R' v w'→∀ a,Cl n σ a→Ny P fn R Rp ch ds a w'):∀ a,Cl n σ a→Ny P fn R Rp ch (Nf f cs args::ds) a w:=fun a ha=>by
 refine ⟨by simp,.inr ⟨(fun h=>by cases h),.func f,cs,f,args++cs,rfl,Sq aa _ _,fun _ _=>Cc,?_⟩⟩;have h1:=ZZ (u:=.panicking ch) hC;refine ⟨h1.1,fun c ab hu hr=>?_⟩;obtain ⟨e,u',w',fr,⟨rfl,v,rfl,hv⟩,h2⟩:=h1.2 c ab hu hr;refine ⟨.returned v,_,w',fr,?_,h2⟩;show LeavesInM _ _ _ _ _ _ _ (settle (.panicking ch)) _;rw [hs];exact h v w' hv a ha
end
theorem FL.mono{P:AJ}{Z:List Bf→Act→Ae→Prop}{ops:Array Oper}{cl:Nat→Nat}{lv:Nat→Bool}{W0:Ae}{K K':Act→Ae→Prop}(hK:∀ a w,K a w→K' a w):∀ (L:List Nat) (a:Act) (w:Ae),FL P Z ops cl lv W0 K L a w→FL P Z ops cl lv W0 K' L a w
 | [],a,w,h=>hK _ _ h
 | i::rest,a,w,⟨o,ho,hb⟩=>by
  refine ⟨o,ho,?_⟩;by_cases hc:cl i=0∨cl i=3;rw [CO hc] at hb ⊢;obtain ⟨v,h1,h2,h3⟩:=hb;exact ⟨v,h1,h2,FL.mono hK rest _ _ h3⟩;rw [CN hc] at hb ⊢;by_cases hw:CY o (yielded ops a.tmps)=true;rw [CO hw] at hb ⊢;exact hb.turn rfl (fun _ _ h=>h) fun v w' _ hk=>FL.mono hK rest _ _ hk;rw [CN hw] at hb ⊢;exact FL.mono hK rest _ _ hb
def aJ(P:AJ)(n:Nat)(σ:List Ce)(w:Ae)(op:Op)(ty:AD)(d:Deferred):Prop :=
 ∀ (dst:Option Tmp) (pos:String) (after:Array Edge) (g:Option (Nat×Bool)) (a:Act),Cl n σ a→(execOp a.eval ⟨dst,op,ty,pos,after,g⟩).run P w = .ok (.defer d) w
theorem XQ{P:AJ}{n:Nat}{σ:List Ce}{w:Ae}{x:Bl}{f:Nat}{cs:Array Aj}{xs:List Bl}{vs:List Aj}{ats:Array AD}{ty:AD}(h:BI n σ True x (.func (.func f) #[] cs))(hx:Kq n σ True xs vs) :
 aJ P n σ w (.defer { callee:=.value x,args:=xs.toArray,argTypes:=ats }) ty (Nf f cs vs.toArray):=fun aa pos after g a hk=>by
 have h2:xs.toArray.map a.eval=vs.toArray:=by rw [IH,hx a hk Cc]
 simp [execOp,resolve,h a hk Cc,h2,Deferred.ofValue,Nf]
def VA(P:AJ)(o:Oper)(N:Fw)(ds:List Deferred)(a:Act)(w:Ae):Prop:=∃ d,(execOp a.eval o).run P w = .ok (.defer d) w∧N (d::ds) (a.put o.dst undef) w
theorem Wu{P:AJ}{n:Nat}{σ:List Ce}{w:Ae}{op:Op}{ty:AD}{pos:String}{after:Array Edge}{d:Deferred}{N:Fw}{ds:List Deferred}(hr:aJ P n σ w op ty d)(h:∀ a,Cl n σ a→N (d::ds) a w):∀ a,Cl n σ a→VA P ⟨none,op,ty,pos,after,none⟩ N ds a w:=fun a ha =>
 ⟨d,hr _ _ _ _ a ha,h a ha⟩
theorem Om{P:AJ}{F:Fence}{n:Nat}{ops:Array Oper}{Q:Exit→Act→Ae→Prop}{L2:List Nat}:∀ (L1:List Nat) (a:Act) (w:Ae),wpOpsIn F n P ops (Exit.then (fun a w=>wpOpsIn F n P ops Q L2 a w) Q) L1 a w→wpOpsIn F n P ops Q (L1++L2) a w
 | [],a,w,h=>h
 | i::L1,a,w,h=>by
  have e:=wpOpsIn_cons (F:=F) (n:=n) (P:=P) (ops:=ops) (Q:=Q) i (L1++L2) a w;rw [List.cons_append,e];have AU:=wpOpsIn_cons (F:=F) (n:=n) (P:=P) (ops:=ops) (Q:=Exit.then (fun a w=>wpOpsIn F n P ops Q L2 a w) Q) i L1 a w;rw [AU] at h;unfold wpOpIn at h ⊢
  cases ho:ops[i]? with
  | none=>simp only [ho] at h ⊢;exact Om L1 _ _ h
  | some o =>
   simp only [ho] at h ⊢;by_cases hw:CY o (yielded ops a.tmps)=true;rw [CO hw] at h ⊢;refine ⟨h.1,?_⟩;have h2:=h.2;generalize (o.semAt F.round a.eval).run P w=r at *
   cases r with
   | ok x w' =>
    cases x <;> simp only [Oper.uponIn,LetsOut] at h2 ⊢ <;>
     first
      | exact Om L1 _ _ h2
      | exact ⟨h2.1,CallsIn.mono h2.2 (fun e aa he=>by cases e <;> first|exact Om L1 _ _ he|exact he)⟩
      | exact ⟨h2.1,RowsIn.mono h2.2 (fun _ _ he=>Om L1 _ _ he)⟩
      | exact ⟨h2.1,RoundIn.mono h2.2 (fun e aa he=>by cases e <;> first|exact Om L1 _ _ he|exact he)⟩
      | exact h2
   | halt x w'=>cases x <;> simp only [Oper.uponIn] at h2 ⊢ <;> exact h2
   rw [CN hw] at h ⊢;exact ⟨h.1,Om L1 _ _ h.2⟩
section
variable {P:AJ} {n:Nat} {ds:List Deferred} {N T:Fw} {X:List (Nat×Fw)} {Z:List Bf→Fw} {σ:List Ce} {w:Ae}
theorem WP{id k:Nat}{l:List Oper}{o:Oper}(cl:List Nat)(hk:Ao l.length (k+1)=true)(ho:l[k]? = some o)(hg:o.guard=none)
 (h:BK P (fun ch a w=>Z ch ds a w) l cl [] w n (VA P o N ds) 0 (l.take k) σ w):Hw P none n ds (.region id l.toArray false) N X T Z σ w:=fun a ha=>by
 have hk:=Bu hk
 have h1:=h (fun j o' aa=>by
  rw [LX] at aa;split at aa;simpa using aa;cases aa) a ha
 have e:JN []=fun _=>true:=by funext i;simp [JN]
 rw [e] at h1;have h2:=FL.wd (Z:=Z) (N:=fun ds a w=>VA P o N ds a w) ds _ a w ha.2.1 h1;refine wpIn_region ?_
 have hL:Cj l.toArray.size=List.range' 0 (l.take k).length++[k]:=by
  rw [Ha,Nat.min_eq_left O,Ht,hk,List.range_succ,List.range_eq_range']
 rw [hL];refine Om _ _ _ (O6 (ρ:=none) (cl:=Bw cl) (W0:=w) (Z:=fun ch=>JX (Z ch)) (fun ch a w h=>h) _ _ _ ?_);refine FL.mono (fun a' w' hq=>?_) _ _ _ h2;obtain ⟨d,hr,hn⟩:=hq;have hw:CY o (yielded l.toArray a'.tmps)=true:=by unfold CY;rw [hg]
 show wpOpsIn (KC none) 0 P l.toArray (Pe N X T Z) [k] a' w';unfold wpOpsIn;simp only [dR,ho];rw [CO hw];refine ⟨fun _ _=>Cc,?_⟩;have hr:(execOp a'.eval o).run P w' = .ok (.defer d) w':=hr;rw [show Oper.semAt (KC none).round a'.eval o=execOp a'.eval o from rfl,hr];have AU:(({ a' with defers:=d::a'.defers }:Act).put o.dst undef).defers=d::a'.defers:=Nr _ _ _
 have e2:wd [] (({ a' with defers:=d::a'.defers }:Act).put o.dst undef)=(wd [] a').put o.dst undef:=by
  cases o.dst <;> rfl
 show N (({ a' with defers:=d::a'.defers }:Act).put o.dst undef).defers (wd [] (({ a' with defers:=d::a'.defers }:Act).put o.dst undef)) w';rw [AU,e2];exact hn
end
section
variable {P:AJ} {B:List Bf→Ae→Prop} {ops:List Oper} {cl:List Nat} {lv:List Bool} {W0:Ae} {n:Nat} {K:Act→Ae→Prop} {k:Nat} {rest:List Oper} {σ:List Ce} {w:Ae} {d:Nat} {op:Op} {ty:AD} {pos:String} {after:Array Edge} {v:Aj}
theorem Qe{f:FuncId}{args:Array Aj}{R:Aj→Ae→Prop}{Rp:List Bf→Ae→Prop}(hb:(!Ao (Bw cl k) 0 && !Ao (Bw cl k) 3&&AA d n)=true)(hr:OU P n σ True w op ty f args)(hC:Gg P f args w R Rp)
  (hz:∀ ch w',Rp ch w'→B ch w') (h:∀ v w',R v w'→(Bw cl k=1→G w w')∧BK P (LD B) ops cl lv W0 n K (k+1) rest ((d,True,v) :: σ) w') :
  BK P (LD B) ops cl lv W0 n K k (⟨some d,op,ty,pos,after,none⟩::rest) σ w:=Mp hb hr hC (fun ch w' hp a ha=>⟨ha.2.1,hz ch w' hp⟩) h
end
theorem JM{P:AJ}{f:FuncId}{fn:Func}{c:Code}{args:List Aj}{w:Ae}{R:Aj→Ae→Prop}{B:List Bf→Ae→Prop}{m:Nat}(hf:P.funcs[f]? = some fn)(hb:fn.body=some c)(hm:args.length+(fn.ntmps-args.length)=m)
 (σ0:List Ce) (hs:H0 σ0 (JJ 0 args))
 (hh:EN P B m c (fun a w=>bodyPost P fn (fun e w'=>∃ v,e = .returned v∧R v w') .normal a w) [] (fun a w=>bodyPost P fn (fun e w'=>∃ v,e = .returned v∧R v w') .ret a w) σ0 w):Gg P f args.toArray w R B:=by
 refine calls_of_wp hf hb (Code.wp_mono (fun e a w q=>?_) (hh.h _ (Cl.sub (σ:=JJ 0 args) ?_ hs)))
 cases e with
 | normal=>obtain ⟨h1,v,h2,h3⟩:=q;exact ⟨h1,v,h2,.inl h3⟩
 | ret=>obtain ⟨h1,v,h2,h3⟩:=q;exact ⟨h1,v,h2,.inl h3⟩
 | panic ch=>exact ⟨q.1,.inr ⟨ch,rfl,q.2⟩⟩
 | _=>exact q.elim
 refine ⟨by simp [← hm],rfl,fun t c' v hl=>?_⟩;obtain ⟨rfl,_,h3⟩:=PH args 0 t c' v hl;refine ⟨fun _=>?_,fun hn=>absurd Cc hn⟩;rw [Jz] at h3;have aa:t<args.length:=(FI.1 h3).1;simp [Kh,aa,h3];simpa [aa] using h3
def YC(P:AJ)(B:List Bf→Ae→Prop)(o:Oper)(a:Act)(w:Ae):Prop:=∃ v,(execOp a.eval o).run P w = .halt (.panic v) w∧a.defers=[]∧B [⟨v,false,false⟩] w
theorem nH{P:AJ}{B:List Bf→Ae→Prop}{n:Nat}{N T:Act→Ae→Prop}{X:List (Nat×(Act→Ae→Prop))}{σ:List Ce}{w:Ae}{id k:Nat}{l:List Oper}{o:Oper}(cl:List Nat)(hk:Ao l.length (k+1)=true)(ho:l[k]? = some o)(hg:o.guard=none)
 (h:BK P (LD B) l cl [] w n (YC P B o) 0 (l.take k) σ w):EN P B n (.region id l.toArray false) N X T σ w:=.mk fun a ha=>by
 have hk:=Bu hk
 have h1:=h (fun j o' aa=>by
  rw [LX] at aa;split at aa;simpa using aa;cases aa) a ha
 have e:JN []=fun _=>true:=by funext i;simp [JN]
 rw [e] at h1;refine (wpIn_wide (P:=P)).1 (wpIn_region (F:=Fence.wide) (n:=0) ?_)
 have hL:Cj l.toArray.size=List.range' 0 (l.take k).length++[k]:=by
  rw [Ha,Nat.min_eq_left O,Ht,hk,List.range_succ,List.range_eq_range']
 rw [hL];refine Om _ _ _ (O6 (ρ:=none) (cl:=Bw cl) (W0:=w) (Z:=LD B) (fun ch a w h=>h) _ _ _ ?_);refine FL.mono (fun a' w' hq=>?_) _ _ _ h1;obtain ⟨v,hr,hd,hb⟩:=hq;have hw:CY o (yielded l.toArray a'.tmps)=true:=by unfold CY;rw [hg]
 show wpOpsIn Fence.wide 0 P l.toArray (Ld N X T B) [k] a' w';unfold wpOpsIn;simp only [dR,ho];rw [CO hw];refine ⟨fun _ _=>Cc,?_⟩;rw [show Oper.semAt Fence.wide.round a'.eval o=execOp a'.eval o from rfl,hr];exact ⟨hd,hb⟩
theorem zI{P:AJ}{B:List Bf→Ae→Prop}{n:Nat}{σ:List Ce}{w:Ae}{x:Bl}{t:AD}{u:Aj}{ty:AD}{pos:String}{after:Array Edge}(hx:BI n σ True x (.iface t u))(hB:B [⟨.iface t u,false,false⟩] w) :
 ∀ a,Cl n σ a→YC P B ⟨none,.panic x,ty,pos,after,none⟩ a w:=fun a ha=>by
 refine ⟨.iface t u,?_,ha.2.1,hB⟩;simp [execOp,hx a ha Cc,Instr.panic,goPanic]
end Go.Rk
