/- Merged texts of one road: Eng, Sym, Run, Mem, More, EngT, Str, Enq, Nest, Facts. Conditions: each text's own. -/
import Derived.Orders
import Derived.Below
import Derived.LoopTactic
import Derived.CallsIn
import Derived.OrdersIn
import Derived.DefersIn
import Derived.RangeFuncRecord
import Derived.RangeFuncLeaves
import Derived.WalkKit
import Derived.WalkSpells
import Derived.WalkLawsBesides
import Derived.Maps.AppendAt
import Derived.Laws.StructEq
import Derived.Stop.IfaceNil
import Derived.Laws.Pointers
import Derived.Lib.Builder
import Derived.Lib.AppendStr
import Derived.Lib.UnsafeStr
import Derived.Laws.Externs
import Derived.Test.YtapkdoacegpgaaaGreatDoorProg
import Derived.KernelRfl
set_option linter.unusedSimpArgs false
set_option linter.unusedVariables false
namespace Go.Proofs
end Go.Proofs
namespace Go.Rk
open Go.Proofs
open Go Go.RowKit
theorem Yoh{α:Type}{x y:List α}:(x++y).length=x.length+y.length:=List.length_append
theorem Yph{α:Type}{a:α}{x:List α}:(a::x).length=x.length+1:=rfl
theorem Yqh{α:Type}:([]:List α).length=0:=rfl
theorem Yrh{α:Type}{x:List α}{y:List (List α)}:(x::y).flatten=x++y.flatten:=rfl
theorem Ysh{α:Type}:([]:List (List α)).flatten=[]:=rfl
theorem Yth{α:Type}(x:List α):x++[]=x:=List.append_nil x
theorem Yuh{α:Type}{a:α}{n:Nat}:(List.replicate n a).length=n:=List.length_replicate
theorem O{α:Sort _}{a:α}:a=a:=rfl
theorem Yvh{p:Prop}[Decidable p](h:¬ p):decide p=false:=decide_eq_false h
theorem Ywh{p:Prop}[Decidable p](h:p):decide p=true:=decide_eq_true h
theorem Yxh{a b:Bool}(h:a=b):Value.bool a=Value.bool b:=congrArg Value.bool h
def G(w w':World):Prop:=Below w.heap.size w w'
theorem G.refl(w:World):G w w:=Below.refl _ _
theorem G.trans{a b c:World}(h:G a b)(k:G b c):G a c:=Below.trans h (Below.mono k h.size)
theorem G.drew(w:World):G w w.drew:=⟨rfl,rfl,rfl,Nat.le_refl _,fun _ _=>rfl⟩
theorem G.size{a b:World}(h:G a b):a.heap.size≤b.heap.size:=Below.size h
theorem G.block{a b:World}(h:G a b){k:Nat}(hk:k<a.heap.size):b.heap[k]? = a.heap[k]?:=Below.block h k hk
def WF(ρ:Option Nat):Fence:={ Fence.wide with round:=ρ }
@[reducible] def NoP:List PanicEntry→Act→World→Prop:=fun _ _ _=>False
def Eff(P:Program)(Z:List PanicEntry→Act→World→Prop)(gr:Bool)(o:Oper)(a:Act)(w:World)(next:Act→World→Prop):Prop :=
 (∃ v w',(execOp a.eval o).run P w = .ok (.value v) w'∧(gr=true→G w w')∧next (a.put o.dst v) w')∨
 (∃ w',(execOp a.eval o).run P w = .ok .skip w'∧(gr=true→G w w')∧next (a.put o.dst undef) w')∨
 (∃ f args,(execOp a.eval o).run P w = .ok (.enter f args) w∧Calls P f args w fun e w'=>(∃ v,e = .returned v∧(gr=true→G w w')∧next (a.put o.dst v) w')∨(∃ ch,e = .panicked ch∧Z ch a w'))∨
 (∃ l f tmps asg body,(execOp a.eval o).run P w = .ok (.round l f tmps asg body) w∧RoundIn Fence.wide 0 P l f tmps asg body w fun e w'=>∃ v,e = .returned v∧(gr=true→G w w')∧next (a.put o.dst v) w')
theorem Yuf{P:Program}{ρ:Operand→Value}{o:Oper}{c:Call}(ho:o.op = .defer c){w w':World}{x:Next}(h:(execOp ρ o).run P w = .ok x w'):∃ d,x = .defer d:=by
 unfold execOp at h;rw [ho] at h;simp only [Sem.run_bind,Sem.run_pure] at h
 cases hr:(resolve ρ c o.type).run P w with
 | ok d w1=>rw [hr] at h;simp only [Result.andThen_ok] at h;injection h with h _;exact ⟨d,h.symm⟩
 | halt s w1=>rw [hr] at h;cases h
theorem Jha{P:Program}{ρ:Option Nat}{a:Act}{o:Oper}{w w':World}{x:Next}(h:(execOp a.eval o).run P w = .ok x w')(hd:∀ d,x≠.defer d):Oper.semAt ρ a.eval o=execOp a.eval o :=
 Oper.semAt_eq _ _ _ fun c hc=>by obtain ⟨d,e⟩:=Yuf hc h;exact hd d e
theorem Uie{ρ:Option Nat}{n:Nat}{P:Program}{f:FuncId}{args:Array Value}{w:World}{R:Ending→World→Prop}(h:Calls P f args w R):CallsIn (WF ρ) n P f args w R:=callsIn_wide.2 h
theorem Eff.wpIn{P:Program}{Z:List PanicEntry→Act→World→Prop}{gr:Bool}{o:Oper}{a:Act}{w:World}{next:Act→World→Prop}{Q:Exit→Act→World→Prop}{ρ:Option Nat}
 (h:Eff P Z gr o a w next) (hZ:∀ ch w',Z ch a w'→Q (.panic ch) a w'):o.wpIn (WF ρ) 0 P a w next Q:=by
 refine ⟨fun _ _=>trivial,?_⟩;rcases h with ⟨v,w',hr,_,hn⟩|⟨w',hr,_,hn⟩|⟨f,args,hr,hc⟩|⟨l,f,tmps,asg,body,hr,hc⟩;rw [Jha hr (fun d h=>by cases h),hr];exact hn;rw [Jha hr (fun d h=>by cases h),hr];exact hn;rw [Jha hr (fun d h=>by cases h),hr];refine ⟨(fun h=>by cases h),Uie (Calls.mono hc fun e w' h=>?_)⟩;rcases h with ⟨v,rfl,_,hn⟩|⟨ch,rfl,hz⟩;exact hn;exact hZ ch w' hz;rw [Jha hr (fun d h=>by cases h),hr];refine ⟨(fun h=>by cases h),(RoundIn.mono hc fun e w' h=>?_:RoundIn Fence.wide 0 P l f tmps asg body w _)⟩;obtain ⟨v,rfl,_,hn⟩:=h;exact hn
theorem Eff.some{P:Program}{Z:List PanicEntry→Act→World→Prop}{gr:Bool}{o:Oper}{a:Act}{w:World}{next:Act→World→Prop}(hZ:∀ ch a w,¬ Z ch a w)(h:Eff P Z gr o a w next) :
 ∃ v w',(gr=true→G w w')∧next (a.put o.dst v) w':=by
 rcases h with ⟨v,w',_,hg,hn⟩|⟨w',_,hg,hn⟩|⟨f,args,_,hc⟩|⟨l,f,tmps,asg,body,_,hc⟩;exact ⟨v,w',hg,hn⟩;exact ⟨undef,w',hg,hn⟩;obtain ⟨e,w',fr,h,_⟩:=hc [];rcases h with ⟨v,_,hg,hn⟩|⟨ch,_,hz⟩;exact ⟨v,w',hg,hn⟩;exact absurd hz (hZ _ _ _);obtain ⟨e,w',⟨v,_,hg,hn⟩,_⟩:=hc.2 default [] (room_wide _);exact ⟨v,w',hg,hn⟩
theorem Eff.turn{P:Program}{Z Z':List PanicEntry→Act→World→Prop}{gr:Bool}{o:Oper}{a b:Act}{w:World}{next next':Act→World→Prop}(he:execOp b.eval o=execOp a.eval o)
 (hz:∀ ch w',Z ch a w'→Z' ch b w')
 (hn:∀ v w',(gr=true→G w w')→next (a.put o.dst v) w'→next' (b.put o.dst v) w') (h:Eff P Z gr o a w next):Eff P Z' gr o b w next':=by
 rcases h with ⟨v,w',hr,hg,h1⟩|⟨w',hr,hg,h1⟩|⟨f,args,hr,hc⟩|⟨l,f,tmps,asg,body,hr,hc⟩;exact .inl ⟨v,w',by rw [he];exact hr,hg,hn _ _ hg h1⟩;exact .inr (.inl ⟨w',by rw [he];exact hr,hg,hn _ _ hg h1⟩);refine .inr (.inr (.inl ⟨f,args,by rw [he];exact hr,Calls.mono hc fun e w' h=>?_⟩));rcases h with ⟨v,e1,hg,h1⟩|⟨ch,e1,h1⟩;exact .inl ⟨v,e1,hg,hn _ _ hg h1⟩;exact .inr ⟨ch,e1,hz _ _ h1⟩;refine .inr (.inr (.inr ⟨l,f,tmps,asg,body,by rw [he];exact hr,RoundIn.mono hc fun e w' h=>?_⟩));obtain ⟨v,e1,hg,h1⟩:=h;exact ⟨v,e1,hg,hn _ _ hg h1⟩
section
variable (P:Program) (Z:List PanicEntry→Act→World→Prop) (ops:Array Oper) (cl:Nat→Nat) (lv:Nat→Bool) (W0:World) (K:Act→World→Prop)
def Gd(cl:Nat→Nat)(lv:Nat→Bool)(W0:World)(i:Nat)(w w1:World):Prop:=cl i=3∨G (if lv i=true then w else W0) w1
def RS:List Nat→Act→World→Prop
 | [],a,w=>K a w
 | i::rest,a,w =>
  ∃ o,ops[i]? = some o∧
  if cl i=0∨cl i=3 then
   ∃ v,(Region.wanted o (yielded ops a.tmps)=true→∀ w1,Gd cl lv W0 i w w1→(execOp a.eval o).run P w1 = .ok (.value v) w1)∧
    (Region.wanted o (yielded ops a.tmps)=false→v=undef)∧RS rest (a.put o.dst v) w
  else if Region.wanted o (yielded ops a.tmps)=true then Eff P Z (cl i == 1) o a w (fun a' w'=>RS rest a' w')
  else RS rest (a.put o.dst undef) w
end
section
variable {P:Program} {Z:List PanicEntry→Act→World→Prop} {ops:Array Oper} {cl:Nat→Nat} {lv:Nat→Bool} {wt:Nat→Nat→Bool} {W0:World} {K:Act→World→Prop}
structure Okay (ops:Array Oper) (cl:Nat→Nat) (lv:Nat→Bool) (wt:Nat→Nat→Bool):Prop where
  sel:∀ (j:Nat) (o:Oper) cs b,ops[j]? = some o→o.op≠.select cs b
  way:∀ (j:Nat) (o:Oper) (i:Nat),ops[j]? = some o→wt j i=true→∃ e,e∈o.after∧Region.binds .any e=true∧(e.on=i∨wt e.on i=true)
  lt:∀ (j:Nat) (o:Oper) (e:Edge),ops[j]? = some o→e∈o.after→Region.binds .any e=true→e.on<j
  pair:∀ (i j:Nat) (oi oj:Oper),i<j→ops[i]? = some oi→ops[j]? = some oj→wt j i=false→oi.apart ops oj=true∧(cl i=3∨cl j=3∨(cl i=0∨cl j=0)∧cl i≠2∧cl j≠2)
  cls:∀ i,cl i≤3
  fresh:∀ (i j:Nat),i<j→j<ops.size→cl j=0→lv j=true→cl i≠0→cl i≠3→wt j i=true
  stale:∀ (i j:Nat),i<j→j<ops.size→cl j=0→lv j=false→cl i≠2
theorem Vpf(hZ:∀ ch a w,¬ Z ch a w)(ok:Okay ops cl lv wt){j:Nat}{oj:Oper}(hj:ops[j]? = some oj)(hcj:cl j=0∨cl j=3) :
 ∀ (L:List Nat) (a:Act) (w:World),L.Pairwise (· < ·)→j∈L→(∀ i∈L,i<j→wt j i=false)→RS P Z ops cl lv W0 K L a w→
 ∃ v,(Region.wanted oj (yielded ops a.tmps)=true→∀ w1,Gd cl lv W0 j w w1→(execOp a.eval oj).run P w1 = .ok (.value v) w1)∧
 (Region.wanted oj (yielded ops a.tmps)=false→v=undef)∧RS P Z ops cl lv W0 K (L.erase j) (a.put oj.dst v) w:=by
 intro L
 induction L with
 | nil=>intro a w _ hm;cases hm
 | cons i rest ih =>
  intro a w hs hm hr h;obtain ⟨oi,hoi,hb⟩:=h;by_cases hij:i=j;subst hij;obtain rfl:oi=oj:=Option.some.inj (hoi.symm.trans hj);rw [if_pos hcj] at hb;obtain ⟨v,h1,h2,h3⟩:=hb;exact ⟨v,h1,h2,by simpa using h3⟩
  have hmr:j∈rest:=by
   rcases List.mem_cons.1 hm with h|h;exact absurd h.symm hij;exact h
  have hlt:i<j:=(List.pairwise_cons.1 hs).1 j hmr;have hrr:∀ k∈rest,k<j→wt j k=false:=fun k hk=>hr k (List.mem_cons_of_mem _ hk);have hw:=hr i List.mem_cons_self hlt;obtain ⟨hap,hcc⟩:=ok.pair i j oi oj hlt hoi hj hw;obtain ⟨p1,p2,p3⟩:=Oper.apart_spec hap
  have he:(i::rest).erase j=i::rest.erase j:=by
   rw [List.erase_cons_tail];simpa using hij
  have evj:∀ v,execOp (a.put oi.dst v).eval oj=execOp a.eval oj:=fun v=>execOp_put (ops:=ops) oj (fun cs b=>ok.sel j oj cs b hj) a oi.dst v p1;have waj:∀ v,Region.wanted oj (yielded ops (a.put oi.dst v).tmps)=Region.wanted oj (yielded ops a.tmps):=fun v=>wanted_put oj a oi.dst v p1;have evi:∀ v,execOp (a.put oj.dst v).eval oi=execOp a.eval oi:=fun v=>execOp_put (ops:=ops) oi (fun cs b=>ok.sel i oi cs b hoi) a oj.dst v p3;have wai:∀ v,Region.wanted oi (yielded ops (a.put oj.dst v).tmps)=Region.wanted oi (yielded ops a.tmps):=fun v=>wanted_put oi a oj.dst v p3;have com:∀ u v,(a.put oi.dst u).put oj.dst v=(a.put oj.dst v).put oi.dst u:=fun u v=>Act.put_comm a u v p2;by_cases hci:cl i=0∨cl i=3;rw [if_pos hci] at hb;obtain ⟨u,h1,h2,h3⟩:=hb;obtain ⟨v,k1,k2,k3⟩:=ih (a.put oi.dst u) w (List.pairwise_cons.1 hs).2 hmr hrr h3;rw [waj] at k1 k2;rw [evj] at k1;refine ⟨v,k1,k2,?_⟩;rw [he];refine ⟨oi,hoi,?_⟩;rw [if_pos hci];refine ⟨u,?_,?_,?_⟩;rw [wai,evi];exact h1;rw [wai];exact h2;rw [← com];exact k3;rw [if_neg hci] at hb;by_cases hwi:Region.wanted oi (yielded ops a.tmps)=true;rw [if_pos hwi] at hb
  have hgd:∀ w' w1,Gd cl lv W0 j w' w1↔(cl j=3∨G W0 w1):=by
   intro w' w1;unfold Gd;rcases hcj with hc|hc
   have hlj:lv j=false:=by
    cases hl:lv j with
    | false=>rfl
    | true =>
     have:=ok.fresh i j hlt (Array.getElem?_eq_some_iff.1 hj).1 hc hl (fun h=>hci (.inl h)) (fun h=>hci (.inr h));rw [this] at hw;cases hw
   rw [if_neg (by rw [hlj];simp)];simp [hc]
  have key:∀ u w',RS P Z ops cl lv W0 K rest (a.put oi.dst u) w'→∃ v,(Region.wanted oj (yielded ops a.tmps)=true→∀ w1,(cl j=3∨G W0 w1)→(execOp a.eval oj).run P w1 = .ok (.value v) w1)∧
    (Region.wanted oj (yielded ops a.tmps)=false→v=undef)∧RS P Z ops cl lv W0 K (rest.erase j) ((a.put oi.dst u).put oj.dst v) w':=by
   intro u w' h3
   obtain ⟨v,k1,k2,k3⟩:=ih (a.put oi.dst u) w' (List.pairwise_cons.1 hs).2 hmr hrr h3
   rw [waj] at k1 k2
   rw [evj] at k1
   exact ⟨v,fun hh w1 hg=>k1 hh w1 ((hgd _ _).2 hg),k2,k3⟩
  obtain ⟨u0,w0',_,hn0⟩:=hb.some hZ;obtain ⟨v,k1,k2,_⟩:=key u0 w0' hn0;refine ⟨v,fun hh w1 hg=>k1 hh w1 ((hgd _ _).1 hg),k2,?_⟩;rw [he];refine ⟨oi,hoi,?_⟩;rw [if_neg hci,wai,if_pos hwi];refine hb.turn (evi v) (fun ch w' h=>absurd h (hZ _ _ _)) fun u w' _ h3=>?_;obtain ⟨v',q1,q2,q3⟩:=key u w' h3
  have hv:v'=v:=by
   cases hwj:Region.wanted oj (yielded ops a.tmps) with
   | true =>
    have e1:=k1 hwj W0 (.inr (G.refl _));have e2:=q1 hwj W0 (.inr (G.refl _));rw [e1] at e2;injection e2 with e2 _;injection e2 with e2;exact e2.symm
   | false=>rw [k2 hwj,q2 hwj]
  subst hv;rw [← com];exact q3;rw [if_neg hwi] at hb;obtain ⟨v,k1,k2,k3⟩:=ih (a.put oi.dst undef) w (List.pairwise_cons.1 hs).2 hmr hrr hb;rw [waj] at k1 k2;rw [evj] at k1;refine ⟨v,k1,k2,?_⟩;rw [he];refine ⟨oi,hoi,?_⟩;rw [if_neg hci,wai,if_neg hwi,← com];exact k3
theorem Yvf(hZ:∀ ch a w,¬ Z ch a w)(ok:Okay ops cl lv wt){j:Nat}{oj:Oper}(hj:ops[j]? = some oj)(hcj:¬ (cl j=0∨cl j=3)) :
 ∀ (L:List Nat) (a:Act) (w:World),L.Pairwise (· < ·)→j∈L→(∀ i∈L,i<j→wt j i=false)→RS P Z ops cl lv W0 K L a w→
 if Region.wanted oj (yielded ops a.tmps)=true then Eff P Z (cl j == 1) oj a w (fun a' w'=>RS P Z ops cl lv W0 K (L.erase j) a' w')
 else RS P Z ops cl lv W0 K (L.erase j) (a.put oj.dst undef) w:=by
 intro L
 induction L with
 | nil=>intro a w _ hm;cases hm
 | cons i rest ih =>
  intro a w hs hm hr h;obtain ⟨oi,hoi,hb⟩:=h;by_cases hij:i=j;subst hij;obtain rfl:oi=oj:=Option.some.inj (hoi.symm.trans hj);rw [if_neg hcj] at hb;simpa using hb
  have hmr:j∈rest:=by
   rcases List.mem_cons.1 hm with h|h;exact absurd h.symm hij;exact h
  have hlt:i<j:=(List.pairwise_cons.1 hs).1 j hmr;have hrr:∀ k∈rest,k<j→wt j k=false:=fun k hk=>hr k (List.mem_cons_of_mem _ hk);have hw:=hr i List.mem_cons_self hlt;obtain ⟨hap,hcc⟩:=ok.pair i j oi oj hlt hoi hj hw
  have hci:cl i=3∨cl i=0∧cl j=1:=by
   have hle:=ok.cls j;rcases hcc with h|h|⟨h,_,h2⟩;exact .inl h;exact absurd (.inr h) hcj;rcases h with h|h;exact .inr ⟨h,by omega⟩;exact absurd (.inl h) hcj
  have hci':cl i=0∨cl i=3:=by
   rcases hci with h|h;exact .inr h;exact .inl h.1
  obtain ⟨p1,p2,p3⟩:=Oper.apart_spec hap
  have he:(i::rest).erase j=i::rest.erase j:=by
   rw [List.erase_cons_tail];simpa using hij
  have evj:∀ v,execOp (a.put oi.dst v).eval oj=execOp a.eval oj:=fun v=>execOp_put (ops:=ops) oj (fun cs b=>ok.sel j oj cs b hj) a oi.dst v p1;have waj:∀ v,Region.wanted oj (yielded ops (a.put oi.dst v).tmps)=Region.wanted oj (yielded ops a.tmps):=fun v=>wanted_put oj a oi.dst v p1;have evi:∀ v,execOp (a.put oj.dst v).eval oi=execOp a.eval oi:=fun v=>execOp_put (ops:=ops) oi (fun cs b=>ok.sel i oi cs b hoi) a oj.dst v p3;have wai:∀ v,Region.wanted oi (yielded ops (a.put oj.dst v).tmps)=Region.wanted oi (yielded ops a.tmps):=fun v=>wanted_put oi a oj.dst v p3;have com:∀ u v,(a.put oi.dst u).put oj.dst v=(a.put oj.dst v).put oi.dst u:=fun u v=>Act.put_comm a u v p2;rw [if_pos hci'] at hb;obtain ⟨u,h1,h2,h3⟩:=hb;have k:=ih (a.put oi.dst u) w (List.pairwise_cons.1 hs).2 hmr hrr h3;rw [waj] at k
  have back:∀ x w',(cl j=1→G w w')→RS P Z ops cl lv W0 K (rest.erase j) ((a.put oi.dst u).put oj.dst x) w'→RS P Z ops cl lv W0 K ((i::rest).erase j) (a.put oj.dst x) w':=by
   intro x w' hg hk;rw [he];refine ⟨oi,hoi,?_⟩;rw [if_pos hci'];refine ⟨u,?_,?_,?_⟩;rw [wai,evi];intro hwi w1 hg1;refine h1 hwi w1 ?_;rcases hg1 with hg1|hg1;exact .inl hg1;rcases hci with hc|⟨_,hc⟩;exact .inl hc;refine .inr ?_;by_cases hl:lv i=true;rw [if_pos hl] at hg1 ⊢;exact (hg hc).trans hg1;rw [if_neg hl] at hg1 ⊢;exact hg1;rw [wai];exact h2;rw [← com];exact hk
  by_cases hwj:Region.wanted oj (yielded ops a.tmps)=true;rw [if_pos hwj] at k ⊢;refine k.turn (evj u).symm (fun ch w' h=>absurd h (hZ _ _ _)) fun x w' hg hk=>back x w' (fun h=>hg (by simp [h])) hk;rw [if_neg hwj] at k ⊢;exact back _ _ (fun _=>G.refl _) k
structure Left (ops:Array Oper) (L:List Nat) (listed:Array Bool):Prop where
  size:listed.size=ops.size
  sorted:L.Pairwise (· < ·)
  mem:∀ i,i∈L↔i<ops.size∧listed.getD i true=false
  closed:∀ j oj,ops[j]? = some oj→j∉L→∀ e∈oj.after,Region.binds .any e=true→e.on∉L
theorem Left.waits(ok:Okay ops cl lv wt){L:List Nat}{listed:Array Bool}(hL:Left ops L listed) :
 ∀ (n j:Nat) (oj:Oper),j≤n→ops[j]? = some oj→(∀ e∈oj.after,Region.binds .any e=true→e.on∉L)→∀ i∈L,wt j i=false:=by
 intro n
 induction n with
 | zero =>
  intro j oj hjn hj _ i _
  cases hw:wt j i with
  | false=>rfl
  | true =>
   obtain ⟨e,he,hb,_⟩:=ok.way j oj i hj hw;have:=ok.lt j oj e hj he hb;omega
 | succ n ih =>
  intro j oj hjn hj hall i hi
  cases hw:wt j i with
  | false=>rfl
  | true =>
   obtain ⟨e,he,hb,hh⟩:=ok.way j oj i hj hw;have hlt:=ok.lt j oj e hj he hb;have hnot:=hall e he hb;rcases hh with rfl|hh;exact absurd hi hnot;have hes:e.on<ops.size:=by have:=(Array.getElem?_eq_some_iff.1 hj).1;omega
   have hoe:ops[e.on]? = some ops[e.on]:=Array.getElem?_eq_getElem hes;have:=ih e.on _ (by omega) hoe (hL.closed e.on _ hoe hnot) i hi;rw [this] at hh;cases hh
theorem Left.step{L:List Nat}{listed:Array Bool}(hL:Left ops L listed){j:Nat}{oj:Oper}(hj:ops[j]? = some oj)(hall:∀ e∈oj.after,Region.binds .any e=true→e.on∉L) :
 Left ops (L.erase j) (listed.setIfInBounds j true):=by
 have hjs:j<listed.size:=by rw [hL.size];exact (Array.getElem?_eq_some_iff.1 hj).1
 have nd:L.Nodup:=hL.sorted.imp (fun h=>Nat.ne_of_lt h);refine ⟨by simp [hL.size],hL.sorted.sublist List.erase_sublist,fun i=>?_,fun k ok' hk hkn e he hb=>?_⟩;rw [nd.mem_erase_iff,hL.mem];by_cases hij:i=j;subst hij;simp [hjs];rw [getD_set_ne true (fun h=>hij h.symm)];simp [hij];by_cases hkj:k=j;subst hkj;obtain rfl:ok'=oj:=Option.some.inj (hk.symm.trans hj);exact fun h=>hall e he hb (List.mem_of_mem_erase h);have hkl:k∉L:=fun h=>hkn (nd.mem_erase_iff.2 ⟨hkj,h⟩);exact fun h=>hL.closed k ok' hk hkl e he hb (List.mem_of_mem_erase h)
theorem Ywf{ρ:Option Nat}(hZ:∀ ch a w,¬ Z ch a w)(ok:Okay ops cl lv wt){Q:Exit→Act→World→Prop}(hQ:∀ a w,K a w→Q .normal a w) :
 ∀ (n:Nat) (L:List Nat) (listed:Array Bool) (a:Act) (w:World),L.length=n→Left ops L listed→(∀ i∈L,cl i=0→lv i=false→G W0 w)→RS P Z ops cl lv W0 K L a w→
 wpAnyIn (WF ρ) 0 P .any ops Q n listed a w:=by
 intro n
 induction n with
 | zero =>
  intro L listed a w hn hL hG h;obtain rfl:L=[]:=List.eq_nil_of_length_eq_zero hn;refine ⟨?_,hQ _ _ h⟩;refine List.eq_nil_iff_forall_not_mem.2 fun j hj=>?_;obtain ⟨h0,o,ho,_⟩:=mem_ready.1 hj;have:=(hL.mem j).2 ⟨(Array.getElem?_eq_some_iff.1 ho).1,h0⟩;cases this
 | succ n ih =>
  intro L listed a w hn hL hG h
  have inL:∀ j,j∈Region.ready .any ops listed→∃ oj,ops[j]? = some oj∧j∈L∧∀ e∈oj.after,Region.binds .any e=true→e.on∉L:=by
   intro j hj;obtain ⟨h0,oj,ho,hall⟩:=mem_ready.1 hj;have hjs:=(Array.getElem?_eq_some_iff.1 ho).1;refine ⟨oj,ho,(hL.mem j).2 ⟨hjs,h0⟩,fun e he hb hm=>?_⟩;have h1:=hall e he hb;obtain ⟨h2,h3⟩:=(hL.mem e.on).1 hm;have h4:e.on<listed.size:=by rw [hL.size];exact h2
   simp [h4] at h1 h3;rw [h1] at h3;cases h3
  refine ⟨fun h0=>?_,fun j hj=>?_⟩;exfalso
  match L,hn,hL,h with
  | i::rest,_,hL,h =>
   obtain ⟨oi,hoi,_⟩:=h;have him:=(hL.mem i).1 List.mem_cons_self
   have:i∈Region.ready .any ops listed:=by
    refine mem_ready.2 ⟨him.2,oi,hoi,fun e he hb=>?_⟩;have hlt:=ok.lt i oi e hoi he hb
    have hno:e.on∉i::rest:=by
     intro hm;rcases List.mem_cons.1 hm with hm|hm;omega;have:=(List.pairwise_cons.1 hL.sorted).1 _ hm;omega
    have hes:e.on<listed.size:=by rw [hL.size];omega
    cases hl:listed.getD e.on true with
    | false=>exact absurd ((hL.mem e.on).2 ⟨by rw [← hL.size];exact hes,hl⟩) hno
    | true=>simpa [hes] using hl
   rw [h0] at this;cases this
  obtain ⟨oj,hoj,hjL,hall⟩:=inL j hj;have hws:∀ i∈L,wt j i=false:=hL.waits ok j j oj (Nat.le_refl _) hoj hall;have hL':=hL.step hoj hall;have hlen:(L.erase j).length=n:=by rw [List.length_erase_of_mem hjL];omega
  have nd:L.Nodup:=hL.sorted.imp (fun h=>Nat.ne_of_lt h);unfold wpOpIn;simp only [hoj];by_cases hc:cl j=0∨cl j=3;obtain ⟨v,h1,h2,h3⟩:=Vpf hZ ok hoj hc L a w hL.sorted hjL (fun i hi _=>hws i hi) h;have hG':∀ i∈L.erase j,cl i=0→lv i=false→G W0 w:=fun i hi=>hG i (List.mem_of_mem_erase hi);have hnext:=ih (L.erase j) _ (a.put oj.dst v) w hlen hL' hG' h3;by_cases hwj:Region.wanted oj (yielded ops a.tmps)=true;rw [if_pos hwj]
  have hr:=h1 hwj w (by
   rcases hc with hc|hc;refine .inr ?_;by_cases hl:lv j=true;rw [if_pos hl];exact G.refl _;rw [if_neg hl];exact hG j hjL hc (by simpa using hl);exact .inl hc)
  refine ⟨fun _ _=>trivial,?_⟩;rw [Jha hr (fun d h=>by cases h),hr];exact hnext;rw [if_neg hwj];have:=h2 (by simpa using hwj);subst this;exact ⟨fun _ _=>trivial,hnext⟩;have h1:=Yvf hZ ok hoj hc L a w hL.sorted hjL (fun i hi _=>hws i hi) h
  have hG':∀ w',(cl j=1→G w w')→∀ i∈L.erase j,cl i=0→lv i=false→G W0 w':=by
   intro w' hg i hi hci hl;obtain ⟨hij,hiL⟩:=nd.mem_erase_iff.1 hi;have his:=((hL.mem i).1 hiL).1;have hjs:=((hL.mem j).1 hjL).1
   have hc1:cl j=1:=by
    have hle:=ok.cls j
    have hne:cl j≠2:=by
     intro h2;rcases Nat.lt_or_ge i j with hlt|hge;have:=(ok.pair i j ops[i] oj hlt (Array.getElem?_eq_getElem his) hoj (hws i hiL)).2;rcases this with h|h|h;omega;omega;exact h.2.2 h2;exact ok.stale j i (by omega) his hci hl h2
    omega
   exact (hG i hiL hci hl).trans (hg hc1)
  by_cases hwj:Region.wanted oj (yielded ops a.tmps)=true;rw [if_pos hwj] at h1 ⊢;refine Eff.wpIn (Z:=Z) (gr:=cl j == 1) ?_ (fun ch w' h=>absurd h (hZ _ _ _));refine h1.turn rfl (fun _ _ h=>h) fun v w' hg hk=>?_;exact ih (L.erase j) _ _ w' hlen hL' (hG' w' fun e=>hg (by simp [e])) hk;rw [if_neg hwj] at h1 ⊢;exact ⟨fun _ _=>trivial,ih (L.erase j) _ _ w hlen hL' (fun i hi=>hG i (List.mem_of_mem_erase hi)) h1⟩
theorem Zjd(ops:Array Oper):Left ops (List.range ops.size) (Array.replicate ops.size false):=by
 refine ⟨by simp,List.pairwise_lt_range,fun i=>?_,fun j oj hj hn=>?_⟩;rw [List.mem_range];constructor;intro h;exact ⟨h,by simp [h]⟩;exact fun h=>h.1;exact absurd (List.mem_range.2 (Array.getElem?_eq_some_iff.1 hj).1) hn
theorem Yxf{ρ:Option Nat}(hZ:∀ ch a w,¬ Z ch a w)(ok:Okay ops cl lv wt){id:Nat}{Q:Exit→Act→World→Prop}{a:Act}{w:World}(hm:P.follows .mixedOrders=true)
 (h:RS P Z ops cl lv w.drew (fun a w=>Q .normal a w) (List.range ops.size) a w.drew):(Code.region id ops true).wpIn (WF ρ) 0 P Q a w:=by
 refine wpIn_region_any hm ?_;have:=Ywf (Q:=Q) (ρ:=ρ) hZ ok (fun _ _ h=>h) (List.range ops.size).length (List.range ops.size) (Array.replicate ops.size false) a w.drew rfl (Zjd ops) (fun _ _ _ _=>G.refl _) h;simpa using this
theorem Xng(ok:Okay ops cl lv wt){id:Nat}{Q:Exit→Act→World→Prop}{a:Act}{w:World}(hm:P.follows .mixedOrders=true)
  (h:RS P NoP ops cl lv w.drew (fun a w=>Q .normal a w) (List.range ops.size) a w.drew):(Code.region id ops true).wp P Q a w :=
 wpIn_wide.1 (Yxf (ρ:=none) (fun _ _ _ h=>h) ok hm h)
theorem Ykb{ρ:Option Nat}{Q:Exit→Act→World→Prop}(hZ:∀ ch a w,Z ch a w→Q (.panic ch) a w):∀ (L:List Nat) (a:Act) (w:World),RS P Z ops cl (fun _=>true) W0 (fun a w=>Q .normal a w) L a w→wpOpsIn (WF ρ) 0 P ops Q L a w
 | [],_,_,h=>h
 | i::rest,a,w,h=>by
  obtain ⟨o,ho,hb⟩:=h;unfold wpOpsIn;simp only [ho];by_cases hw:Region.wanted o (yielded ops a.tmps)=true;rw [if_pos hw];by_cases hc:cl i=0∨cl i=3;rw [if_pos hc] at hb;obtain ⟨v,h1,_,h3⟩:=hb;have hr:=h1 hw w (.inr (by rw [if_pos rfl];exact G.refl _));refine ⟨fun _ _=>trivial,?_⟩;rw [Jha hr (fun d h=>by cases h),hr];exact Ykb hZ rest _ _ h3;rw [if_neg hc,if_pos hw] at hb;exact Eff.wpIn (hb.turn rfl (fun _ _ h=>h) fun v w' _ hk=>Ykb hZ rest _ _ hk) (fun ch w' h=>hZ _ _ _ h);rw [if_neg hw];refine ⟨fun _ _=>trivial,?_⟩;by_cases hc:cl i=0∨cl i=3;rw [if_pos hc] at hb;obtain ⟨v,_,h2,h3⟩:=hb;have:=h2 (by simpa using hw);subst this;exact Ykb hZ rest _ _ h3;rw [if_neg hc,if_neg hw] at hb;exact Ykb hZ rest _ _ hb
theorem Yyf{ρ:Option Nat}{id:Nat}{Q:Exit→Act→World→Prop}{a:Act}{w:World}(hZ:∀ ch a w,Z ch a w→Q (.panic ch) a w)(h:RS P Z ops cl (fun _=>true) W0 (fun a w=>Q .normal a w) (List.range ops.size) a w) :
  (Code.region id ops false).wpIn (WF ρ) 0 P Q a w:=wpIn_region (Ykb hZ _ _ _ h)
theorem Xog{id:Nat}{Q:Exit→Act→World→Prop}{a:Act}{w:World}(h:RS P NoP ops cl (fun _=>true) W0 (fun a w=>Q .normal a w) (List.range ops.size) a w) :
  (Code.region id ops false).wp P Q a w:=wpIn_wide.1 (Yyf (ρ:=none) (fun _ _ _ h=>h.elim) h)
end
/-! A look at the region's text, by reckoning. -/
def clOf(cl:List Nat)(i:Nat):Nat:=cl.getD i 0
def lvOf(lv:List Bool)(i:Nat):Bool:=lv.getD i true
def wtOf(ms:List Nat)(j i:Nat):Bool:=(ms.getD j 0).testBit i
def maskOf(ms:List Nat):List Edge→Nat
 | []=>0
 | e::r=>if Region.binds .any e=true then (2 ^ e.on) ||| (ms.getD e.on 0) ||| maskOf ms r else maskOf ms r
def Jxe(o:Oper):Bool:=match o.op with | .select ..=>false|_=>true
def Zyb(ops:Array Oper)(cl:List Nat)(lv:List Bool)(ms:List Nat)(E:List (Nat×Oper×Nat))(k:Nat)(o:Oper):Bool :=
 Jxe o&&Nat.ble (clOf cl k) 3&&o.after.toList.all (fun e=>!Region.binds .any e || Nat.blt e.on k)&&Nat.beq (ms.getD k 0) (maskOf ms o.after.toList) &&
 E.all (fun p=>(ms.getD k 0).testBit p.1 || (p.2.1.apart ops o&&(Nat.beq p.2.2 3 || Nat.beq (clOf cl k) 3 || (Nat.beq p.2.2 0 || Nat.beq (clOf cl k) 0) && !Nat.beq p.2.2 2 && !Nat.beq (clOf cl k) 2))) &&
 (!Nat.beq (clOf cl k) 0 || if lvOf lv k=true then E.all (fun p=>Nat.beq p.2.2 0 || Nat.beq p.2.2 3 || (ms.getD k 0).testBit p.1) else E.all (fun p=>!Nat.beq p.2.2 2))
def Xtc(ops:Array Oper)(cl:List Nat)(lv:List Bool)(ms:List Nat):List (Nat×Oper×Nat)→Nat→List Oper→Bool
 | _,_,[]=>true
 | E,k,o::rest=>Zyb ops cl lv ms E k o&&Xtc ops cl lv ms ((k,o,clOf cl k)::E) (k+1) rest
def okB(l:List Oper)(cl:List Nat)(lv:List Bool)(ms:List Nat):Bool :=
 Xtc l.toArray cl lv ms [] 0 l&&Nat.ble cl.length l.length&&Nat.ble ms.length l.length
theorem Jpb(ms:List Nat)(i:Nat):∀ (l:List Edge),(maskOf ms l).testBit i=true→∃ e,e∈l∧Region.binds .any e=true∧(e.on=i∨wtOf ms e.on i=true)
 | [],h=>by simp [maskOf] at h
 | e::r,h=>by
  unfold maskOf at h;by_cases hb:Region.binds .any e=true;rw [if_pos hb,Nat.testBit_or,Nat.testBit_or,Bool.or_eq_true,Bool.or_eq_true] at h;rcases h with (h|h)|h;refine ⟨e,List.mem_cons_self,hb,.inl ?_⟩;rw [Nat.testBit_two_pow] at h;simpa using h;exact ⟨e,List.mem_cons_self,hb,.inr h⟩;obtain ⟨e',h1,h2⟩:=Jpb ms i r h;exact ⟨e',List.mem_cons_of_mem _ h1,h2⟩;rw [if_neg hb] at h;obtain ⟨e',h1,h2⟩:=Jpb ms i r h;exact ⟨e',List.mem_cons_of_mem _ h1,h2⟩
theorem Ydc(ops:Array Oper)(cl:List Nat)(lv:List Bool)(ms:List Nat):∀ (l:List Oper) (E:List (Nat×Oper×Nat)) (k:Nat),
  (∀ j,l[j]? = ops[k+j]?)→(∀ i,i<k→∃ oi,ops[i]? = some oi∧(i,oi,clOf cl i)∈E)→Xtc ops cl lv ms E k l=true→
  ∀ j oj,k≤j→ops[j]? = some oj→∃ E',(∀ i,i<j→∃ oi,ops[i]? = some oi∧(i,oi,clOf cl i)∈E')∧Zyb ops cl lv ms E' j oj=true
 | [],_,k,hl,_,_=>by
  intro j oj hkj hj;have:=hl (j-k);rw [show k+(j-k)=j by omega,hj] at this;simp at this
 | o::rest,E,k,hl,hE,h=>by
  intro j oj hkj hj;unfold Xtc at h;rw [Bool.and_eq_true] at h;have h0:ops[k]? = some o:=by simpa using (hl 0).symm
  by_cases hjk:j=k;subst hjk;obtain rfl:o=oj:=Option.some.inj (h0.symm.trans hj);exact ⟨E,hE,h.1⟩;refine Ydc ops cl lv ms rest ((k,o,clOf cl k)::E) (k+1) (fun j=>by have:=hl (j+1);simpa [Nat.add_assoc,Nat.add_comm 1 j] using this) ?_ h.2 j oj (by omega) hj;intro i hi;by_cases hik:i=k;subst hik;exact ⟨o,h0,List.mem_cons_self⟩;obtain ⟨oi,h1,h2⟩:=hE i (by omega);exact ⟨oi,h1,List.mem_cons_of_mem _ h2⟩
theorem Xpg{l:List Oper}{cl:List Nat}{lv:List Bool}{ms:List Nat}(h:okB l cl lv ms=true):Okay l.toArray (clOf cl) (lvOf lv) (wtOf ms):=by
 unfold okB at h;rw [Bool.and_eq_true,Bool.and_eq_true] at h;obtain ⟨⟨h,hcl⟩,hml⟩:=h;have S:=Ydc l.toArray cl lv ms l [] 0 (by simp) (fun i hi=>absurd hi (by omega)) h;have at_:∀ j oj,l.toArray[j]? = some oj→∃ E',(∀ i,i<j→∃ oi,l.toArray[i]? = some oi∧(i,oi,clOf cl i)∈E')∧Zyb l.toArray cl lv ms E' j oj=true:=fun j oj hj=>S j oj (Nat.zero_le _) hj
 have hsize:∀ j,l.toArray.size≤j→clOf cl j=0∧ms.getD j 0=0:=by
  intro j hj;have h1:=Nat.le_of_ble_eq_true hcl;have h2:=Nat.le_of_ble_eq_true hml;simp only [List.size_toArray] at hj;constructor;unfold clOf;rw [List.getD_eq_getElem?_getD,List.getElem?_eq_none (by omega)];rfl;rw [List.getD_eq_getElem?_getD,List.getElem?_eq_none (by omega)];rfl
 refine ⟨?_,?_,?_,?_,?_,?_,?_⟩;intro j o cs b hj heq;obtain ⟨E',_,hh⟩:=at_ j o hj;simp [Zyb,Jxe,heq] at hh;intro j o i hj hw;obtain ⟨E',_,hh⟩:=at_ j o hj;simp only [Zyb,Bool.and_eq_true] at hh;have hm:=Nat.eq_of_beq_eq_true hh.1.1.2;unfold wtOf at hw;rw [hm] at hw;obtain ⟨e,h1,h2⟩:=Jpb ms i _ hw;exact ⟨e,Array.mem_toList_iff.1 h1,h2⟩;intro j o e hj he hb;obtain ⟨E',_,hh⟩:=at_ j o hj;simp only [Zyb,Bool.and_eq_true,List.all_eq_true,Array.mem_toList_iff,Bool.or_eq_true,Bool.not_eq_true'] at hh;rcases hh.1.1.1.2 e he with h1|h1;rw [hb] at h1;cases h1;exact Nat.le_of_ble_eq_true h1;intro i j oi oj hij hi hj hw;obtain ⟨E',hE,hh⟩:=at_ j oj hj;simp only [Zyb,Bool.and_eq_true,List.all_eq_true,Bool.or_eq_true] at hh;obtain ⟨oi',h1,h2⟩:=hE i hij;obtain rfl:oi'=oi:=Option.some.inj (h1.symm.trans hi);rcases hh.1.2 _ h2 with h3|h3;unfold wtOf at hw;rw [h3] at hw;cases hw;obtain ⟨a1,h4⟩:=h3;refine ⟨a1,?_⟩;rcases h4 with (h4|h4)|h4;exact .inl (Nat.eq_of_beq_eq_true h4);exact .inr (.inl (Nat.eq_of_beq_eq_true h4));obtain ⟨⟨a2,a3⟩,a4⟩:=h4;refine .inr (.inr ⟨?_,?_,?_⟩);rcases a2 with a2|a2;exact .inl (Nat.eq_of_beq_eq_true a2);exact .inr (Nat.eq_of_beq_eq_true a2);intro h;dsimp only at a3;rw [h] at a3;simp at a3;intro h;rw [h] at a4;simp at a4;intro i;rcases Nat.lt_or_ge i l.toArray.size with hi|hi;obtain ⟨E',_,hh⟩:=at_ i _ (Array.getElem?_eq_getElem hi);simp only [Zyb,Bool.and_eq_true] at hh;exact Nat.le_of_ble_eq_true hh.1.1.1.1.2;rw [(hsize i hi).1];omega;intro i j hij hj hcj hl hc hc3;obtain ⟨E',hE,hh⟩:=at_ j _ (Array.getElem?_eq_getElem hj);obtain ⟨oi,h1,h2⟩:=hE i hij;simp only [Zyb,Bool.and_eq_true] at hh;have h3:=hh.2;rw [hcj,hl] at h3
 simp only [Nat.beq_refl,Bool.not_true,Bool.false_or,if_true,List.all_eq_true,Bool.or_eq_true] at h3;rcases h3 _ h2 with (h3|h3)|h3;exact absurd (Nat.eq_of_beq_eq_true h3) hc;exact absurd (Nat.eq_of_beq_eq_true h3) hc3;exact h3;intro i j hij hj hcj hl hc;obtain ⟨E',hE,hh⟩:=at_ j _ (Array.getElem?_eq_getElem hj);obtain ⟨oi,h1,h2⟩:=hE i hij;simp only [Zyb,Bool.and_eq_true] at hh;have h3:=hh.2;rw [hcj,hl] at h3;simp only [Nat.beq_refl,Bool.not_true,Bool.false_or] at h3;rw [if_neg (by simp)] at h3;have h4:=List.all_eq_true.1 h3 _ h2;dsimp only at h4;rw [hc] at h4;simp at h4
abbrev Ent:=Nat×Prop×Value
def look:List Ent→Nat→Option (Prop×Value)
 | [],_=>none
 | (k,c,v)::r,t=>bif Nat.beq k t then some (c,v) else look r t
def Kn(n:Nat)(σ:List Ent)(a:Act):Prop :=
 a.tmps.size=n∧a.defers=[]∧∀ t c v,look σ t=some (c,v)→(c→a.tmps[t]? = some v)∧(¬ c→a.tmps[t]? = some undef)
def Ev(n:Nat)(σ:List Ent)(c:Prop)(x:Operand)(v:Value):Prop:=∀ a,Kn n σ a→c→a.eval x=v
theorem Xvb(a:Act)(v:Value):a.eval (.const v)=v:=rfl
theorem Kn.at_{n:Nat}{σ:List Ent}{a:Act}(h:Kn n σ a){t:Nat}{c:Prop}{v:Value}(hl:look σ t=some (c,v))(hc:c):a.tmps[t]? = some v:=(h.2.2 t c v hl).1 hc
section
variable {n:Nat} {σ:List Ent} {c:Prop} {v:Value}
theorem Zc{t:Nat}(h:look σ t=some (True,v)):Ev n σ c (.tmp t) v:=fun a ha _=>by
 simp [Act.eval,ha.at_ h trivial]
theorem Zk{t:Nat}{c':Prop}(h:look σ t=some (c',v))(hc:c→c'):Ev n σ c (.tmp t) v:=fun a ha h1=>by
 simp [Act.eval,ha.at_ h (hc h1)]
theorem Xg:Ev n σ c (.const v) v:=fun _ _ _=>rfl
theorem ev_g{g:Nat}:Ev n σ c (.global g) (.pointer (some ⟨g,0,none⟩)):=fun _ _ _=>rfl
theorem Vi{f:Nat}:Ev n σ c (.func f) (.func (.func f) #[] #[]):=fun _ _ _=>rfl
theorem Ev.to{x:Operand}{v':Value}(h:Ev n σ c x v)(e:c→v=v'):Ev n σ c x v':=fun a ha hc=>(h a ha hc).trans (e hc)
end
theorem Kn.put{n:Nat}{σ:List Ent}{a:Act}(h:Kn n σ a){d:Nat}(hd:Nat.blt d n=true){c:Prop}{v v':Value}(h1:c→v'=v)(h2:¬ c→v'=undef) :
 Kn n ((d,c,v) :: σ) (a.put (some d) v'):=by
 have hd':d<n:=Nat.le_of_ble_eq_true hd;refine ⟨by simp [Act.put,h.1],h.2.1,fun t c' u hl=>?_⟩;unfold look at hl;by_cases ht:d=t;subst ht;simp only [Nat.beq_refl,cond_true] at hl;injection hl with hl;injection hl with e1 e2;subst e1;subst e2;have hs:d<a.tmps.size:=by rw [h.1];exact hd'
 simp only [Act.put];rw [Array.getElem?_setIfInBounds_self_of_lt hs];exact ⟨fun hc=>by rw [h1 hc],fun hc=>by rw [h2 hc]⟩
 have:Nat.beq d t=false:=by
  cases hb:Nat.beq d t with
  | false=>rfl
  | true=>exact absurd (Nat.eq_of_beq_eq_true hb) ht
 rw [this] at hl;simp only [cond_false] at hl;simp only [Act.put];rw [Array.getElem?_setIfInBounds_ne ht];exact h.2.2 t c' u hl
def Sub(τ σ:List Ent):Prop:=∀ t c v,look τ t=some (c,v)→look σ t=some (c,v)
theorem Zp(σ:List Ent):Sub [] σ:=fun _ _ _ h=>by simp [look] at h
theorem Za{t:Nat}{c:Prop}{v:Value}{τ σ:List Ent}(h:look σ t=some (c,v))(k:Sub τ σ):Sub ((t,c,v) :: τ) σ:=fun u c' v' hl=>by
 unfold look at hl
 cases hb:Nat.beq t u with
 | true =>
  rw [hb] at hl;obtain rfl:=Nat.eq_of_beq_eq_true hb;simp only [cond_true] at hl;injection hl with hl;injection hl with e1 e2;subst e1;subst e2;exact h
 | false=>rw [hb] at hl;exact k u c' v' hl
theorem Kn.sub{n:Nat}{τ σ:List Ent}{a:Act}(h:Kn n σ a)(k:Sub τ σ):Kn n τ a:=⟨h.1,h.2.1,fun t c v hl=>h.2.2 t c v (k t c v hl)⟩
/-! ## Operations that read -/
structure Rd (P:Program) (n:Nat) (σ:List Ent) (c:Prop) (wb:World) (op:Op) (ty:TypeId) (v:Value):Prop where mk ::
  h:∀ (d:Option Tmp) (pos:String) (after:Array Edge) (g:Option (Nat×Bool)) (a:Act),Kn n σ a→c→∀ w1,G wb w1→(execOp a.eval ⟨d,op,ty,pos,after,g⟩).run P w1 = .ok (.value v) w1
instance {P:Program} {n:Nat} {σ:List Ent} {c:Prop} {wb:World} {op:Op} {ty:TypeId} {v:Value}:CoeFun (Rd P n σ c wb op ty v) fun _=>∀ (d:Option Tmp) (pos:String) (after:Array Edge) (g:Option (Nat×Bool)) (a:Act),Kn n σ a→c→∀ w1,G wb w1→(execOp a.eval ⟨d,op,ty,pos,after,g⟩).run P w1 = .ok (.value v) w1:=⟨Rd.h⟩
def Qr(P:Program)(t:TypeId):Bool:=match P.underlying t with|some (.struct _)=>false|some (.array _ _)=>false|some _=>true|none=>false
def Xma(P:Program)(t:TypeId):Option Nat:=match P.underlying t,P.info? t with|some (.struct _),some i=>some i.size|some (.array _ _),some i=>some i.size|_,_=>none
def tySize(P:Program)(t:TypeId):Option Nat:=(P.info? t).map (·.size)
def tyElem(P:Program)(t:TypeId):Option (TypeId×Nat×Nat):=match P.underlying t with|some (.slice e)=>(P.info? e).map fun i=>(e,i.size,i.bytes)|_=>none
def Xuc(P:Program)(t:TypeId):Bool:=match P.underlying t with|some .string=>true|_=>false
def Xj(P:Program)(s:TypeId)(k:Nat):Option Nat:=match P.underlying s with
 | some (.struct fs)=>match fs[k]? with
  | some f=>match P.info? f.type with
   | some i=>if i.size=0 then none else some f.offset
   | none=>none
  | none=>none
 | _=>none
def RowAt(w:World)(b o:Nat)(l:List Value):Prop:=∀ j v,l[j]? = some v→w.cell? ⟨b,o+j,none⟩=some v
theorem Jqb{w w1:World}(h:G w w1){a:Addr}{v:Value}(hc:w.cell? a=some v):w1.cell? a=some v:=(Below.cell h (World.block_lt_of_cell? w a hc)).trans hc
theorem RowAt.grow{w w1:World}{b o:Nat}{l:List Value}(h:RowAt w b o l)(hg:G w w1):RowAt w1 b o l:=fun j v hj=>Jqb hg (h j v hj)
theorem RowAt.part{w:World}{b o:Nat}{l:List Value}(h:RowAt w b o l)(i m:Nat):RowAt w b (o+i) ((l.drop i).take m):=fun j v hj=>by
 rw [List.getElem?_take] at hj;split at hj;rw [List.getElem?_drop] at hj;have:=h (i+j) v hj;rwa [← Nat.add_assoc] at this;cases hj
theorem RowAt.one{w:World}{b o:Nat}{l:List Value}(h:RowAt w b o l){i:Nat}{v:Value}(hi:l[i]? = some v):w.cell? ⟨b,o+i,none⟩=some v:=h i v hi
section
variable {P:Program} {n:Nat} {σ:List Ent} {c:Prop} {wb:World} {ty:TypeId}
theorem Zl{x:Operand}{v:Value}(h:Ev n σ c x v):Rd P n σ c wb (.move x) ty v:=.mk fun d pos after g a ha hc w1 _=>by
 simp [execOp,h a ha hc]
theorem Yt{x:Operand}{v:Value}(h:Ev n σ c x v):Rd P n σ c wb (.assign x) ty v:=.mk fun d pos after g a ha hc w1 _=>by
 simp [execOp,h a ha hc]
theorem Jo{x:Operand}{b:Addr}(h:Ev n σ c x (.pointer (some b))):Rd P n σ c wb (.nilCheck x) ty (.pointer (some b)):=.mk fun d pos after g a ha hc w1 _=>by
 simp [execOp,h a ha hc]
theorem Zz{x y:Operand}{g y':Bool}(h:Ev n σ c x (.bool g))(h1:Ev n σ (c∧g=true) y (.bool y')):Rd P n σ c wb (.pick x y (.const (.bool false))) ty (.bool (g&&y')):=.mk fun d pos after gd a ha hc w1 _=>by
 cases g with
 | false=>simp [execOp,h a ha hc,asBool,Xvb]
 | true=>simp [execOp,h a ha hc,asBool,h1 a ha ⟨hc,rfl⟩]
theorem Wk{x y:Operand}{g y':Bool}(h:Ev n σ c x (.bool g))(h1:Ev n σ (c∧g=false) y (.bool y')):Rd P n σ c wb (.pick x (.const (.bool true)) y) ty (.bool (g || y')):=.mk fun d pos after gd a ha hc w1 _=>by
 cases g with
 | true=>simp [execOp,h a ha hc,asBool,Xvb]
 | false=>simp [execOp,h a ha hc,asBool,h1 a ha ⟨hc,rfl⟩]
theorem Zn{s k off b o:Nat}{x:Operand}(hf:Xj P s k=some off)(h:Ev n σ c x (.pointer (some ⟨b,o,none⟩))) :
 Rd P n σ c wb (.fieldAddr s x k) ty (.pointer (some ⟨b,o+off,none⟩)):=.mk fun d pos after gd a ha hc w1 _=>by
 unfold Xj at hf;split at hf;rename_i fs hs;split at hf;rename_i f hk;split at hf;rename_i i hi;split at hf;cases hf;rename_i hz;injection hf with hf;subst hf;simp [execOp,h a ha hc,Instr.fieldAt,run_underlying hs,hk,Instr.sureAddr,fieldPlace,sizeOf,typeInfo,hi,hz,Addr.add_lit];cases hf;cases hf;cases hf
theorem Uuc{t:TypeId}(ht:Qr P t=true){w:World}{ad:Addr}{v:Value}(hc:w.cell? ad=some v):(loadVar t ad).run P w = .ok v w:=by
 unfold Qr at ht;split at ht <;> try (cases ht;done)
 rename_i d hd1 hd2 hd
 have:(isAgg t).run P w = .ok false w:=by
  simp only [isAgg,Sem.run_bind,run_underlying hd,Result.andThen_ok];rfl
 simp [loadVar,this,hc]
theorem Uvc{t:TypeId}{z:Nat}(ht:Xma P t=some z){w:World}{b o:Nat}{l:List Value}(hl:l.length=z)(hc:RowAt w b o l) :
 (loadVar t ⟨b,o,none⟩).run P w = .ok (.agg l.toArray) w:=by
 have:(isAgg t).run P w = .ok true w∧(sizeOf t).run P w = .ok z w:=by
  unfold Xma at ht;split at ht;rename_i fs i hs hi;injection ht with ht;constructor;simp only [isAgg,Sem.run_bind,run_underlying hs,Result.andThen_ok];rfl;simp [sizeOf,typeInfo,hi,ht];rename_i fs m i hs hi;injection ht with ht;constructor;simp only [isAgg,Sem.run_bind,run_underlying hs,Result.andThen_ok];rfl;simp [sizeOf,typeInfo,hi,ht];cases ht
 have hload:=run_loadCells_list (P:=P) (w:=w) ⟨b,o,none⟩ l (fun j v hj=>by rw [Addr.add_lit];exact hc j v hj);rw [hl] at hload;simp [loadVar,this.1,this.2,hload]
theorem Zt{t b o:Nat}{x:Operand}{v:Value}(ht:Qr P t=true)(h:Ev n σ c x (.pointer (some ⟨b,o,none⟩)))(hc:c→wb.cell? ⟨b,o,none⟩=some v) :
 Rd P n σ c wb (.load t x) ty v:=.mk fun d pos after gd a ha hc' w1 hg=>by
 simp [execOp,h a ha hc',Instr.loadAt,Instr.sureAddr,Uuc ht (Jqb hg (hc hc'))]
theorem Zy{t b o z:Nat}{x:Operand}{l:List Value}(ht:Xma P t=some z)(h:Ev n σ c x (.pointer (some ⟨b,o,none⟩)))(hl:l.length=z)(hc:c→RowAt wb b o l) :
 Rd P n σ c wb (.load t x) ty (.agg l.toArray):=.mk fun d pos after gd a ha hc' w1 hg=>by
 simp [execOp,h a ha hc',Instr.loadAt,Instr.sureAddr,Uvc ht hl ((hc hc').grow hg)]
theorem Xs{x:Operand}{i:Nat}{vs:Array Value}{v:Value}(h:Ev n σ c x (.tuple vs))(hv:vs[i]? = some v):Rd P n σ c wb (.extract x i) ty v:=.mk fun d pos after gd a ha hc w1 _=>by
 simp [execOp,h a ha hc,Instr.extract,hv]
/-! integers -/
theorem Zkd{x:Int}(h : -9223372036854775808≤x∧x≤9223372036854775807):IntKind.i64.wrap x=x:=by
 rw [IntKind.wrap_i64];omega
theorem Ukb{op:BinOp}{t u:TypeId}{x y:Operand}{k:IntKind}{i j r:Int}(h:Ev n σ c x (.int k i))(h':Ev n σ c y (.int k j))
 (hr:c→Op.intArith op k i j=pure (.int k r)) (ho:op = .add∨op = .sub∨op = .mul):Rd P n σ c wb (.binOp op t x y u) ty (.int k r):=.mk fun d pos after gd a ha hc w1 _=>by
 rcases ho with rfl|rfl|rfl <;> simp [execOp,h a ha hc,h' a ha hc,eqGuard_at_int,binOp,hr hc]
theorem Jia{t u:TypeId}{x y:Operand}{i j:Int}(h:Ev n σ c x (.int .i64 i))(h':Ev n σ c y (.int .i64 j))(hr:c→-9223372036854775808≤i+j∧i+j≤9223372036854775807) :
  Rd P n σ c wb (.binOp .add t x y u) ty (.int .i64 (i+j)):=Ukb h h' (fun hc=>by simp [Op.intArith,Zkd (hr hc)]) (.inl rfl)
theorem Jja{t u:TypeId}{x y:Operand}{i j:Int}(h:Ev n σ c x (.int .i64 i))(h':Ev n σ c y (.int .i64 j))(hr:c→-9223372036854775808≤i-j∧i-j≤9223372036854775807) :
  Rd P n σ c wb (.binOp .sub t x y u) ty (.int .i64 (i-j)):=Ukb h h' (fun hc=>by simp [Op.intArith,Zkd (hr hc)]) (.inr (.inl rfl))
theorem Xqg{t u:TypeId}{x y:Operand}{k:IntKind}{i j:Int}(h:Ev n σ c x (.int k i))(h':Ev n σ c y (.int k j)) :
  Rd P n σ c wb (.binOp .add t x y u) ty (.int k (k.wrap (i+j))):=Ukb h h' (fun hc=>by simp [Op.intArith]) (.inl rfl)
theorem Qnd{t u:TypeId}{x y:Operand}{k:IntKind}{i j:Int}(h:Ev n σ c x (.int k i))(h':Ev n σ c y (.int k j)) :
  Rd P n σ c wb (.binOp .sub t x y u) ty (.int k (k.wrap (i-j))):=Ukb h h' (fun hc=>by simp [Op.intArith]) (.inr (.inl rfl))
theorem Xrg{t u:TypeId}{x y:Operand}{k:IntKind}{i j:Int}(h:Ev n σ c x (.int k i))(h':Ev n σ c y (.int k j)) :
  Rd P n σ c wb (.binOp .mul t x y u) ty (.int k (k.wrap (i*j))):=Ukb h h' (fun hc=>by simp [Op.intArith]) (.inr (.inr rfl))
theorem Zla{t u:TypeId}{x y:Operand}{k:IntKind}{i j:Int}(h:Ev n σ c x (.int k i))(h':Ev n σ c y (.int k j)):Rd P n σ c wb (.binOp .eql t x y u) ty (.bool (decide (i=j))):=.mk fun d pos after gd a ha hc w1 _=>by
 simp [execOp,h a ha hc,h' a ha hc,eqGuard_at_int,binOp,Op.intCmp];rfl
theorem Uwc{t u:TypeId}{x y:Operand}{k:IntKind}{i j:Int}(h:Ev n σ c x (.int k i))(h':Ev n σ c y (.int k j)):Rd P n σ c wb (.binOp .neq t x y u) ty (.bool (!decide (i=j))):=.mk fun d pos after gd a ha hc w1 _=>by
 simp [execOp,h a ha hc,h' a ha hc,eqGuard_at_int,binOp,Op.intCmp];rfl
theorem Xvc{t u:TypeId}{x y:Operand}{k:IntKind}{i j:Int}(h:Ev n σ c x (.int k i))(h':Ev n σ c y (.int k j)):Rd P n σ c wb (.binOp .lss t x y u) ty (.bool (decide (i<j))):=.mk fun d pos after gd a ha hc w1 _=>by
 simp [execOp,h a ha hc,h' a ha hc,eqGuard_at_int,binOp,Op.intCmp]
theorem Qog{t u:TypeId}{x y:Operand}{k:IntKind}{i j:Int}(h:Ev n σ c x (.int k i))(h':Ev n σ c y (.int k j)):Rd P n σ c wb (.binOp .leq t x y u) ty (.bool (decide (i≤j))):=.mk fun d pos after gd a ha hc w1 _=>by
 simp [execOp,h a ha hc,h' a ha hc,eqGuard_at_int,binOp,Op.intCmp]
theorem Zld{t u:TypeId}{x y:Operand}{k:IntKind}{i j:Int}(h:Ev n σ c x (.int k i))(h':Ev n σ c y (.int k j)):Rd P n σ c wb (.binOp .gtr t x y u) ty (.bool (decide (j<i))):=.mk fun d pos after gd a ha hc w1 _=>by
 simp [execOp,h a ha hc,h' a ha hc,eqGuard_at_int,binOp,Op.intCmp]
theorem Zmd{t u:TypeId}{x y:Operand}{k:IntKind}{i j:Int}(h:Ev n σ c x (.int k i))(h':Ev n σ c y (.int k j)):Rd P n σ c wb (.binOp .geq t x y u) ty (.bool (decide (j≤i))):=.mk fun d pos after gd a ha hc w1 _=>by
 simp [execOp,h a ha hc,h' a ha hc,eqGuard_at_int,binOp,Op.intCmp]
theorem Vqf{t u:TypeId}{x y:Operand}{i j:Bool}(ht:P.underlying t=some .bool)(h:Ev n σ c x (.bool i))(h':Ev n σ c y (.bool j)):Rd P n σ c wb (.binOp .neq t x y u) ty (.bool (i != j)):=.mk fun d pos after gd a ha hc w1 _=>by
 simp [execOp,h a ha hc,h' a ha hc,eqGuard_at_bool,binOp,Op.equal,Op.maxDepth,run_equalIn_bool' w1 9999 t i j ht];cases i <;> cases j <;> rfl
theorem Xwb{t:TypeId}{x:Operand}{i:Bool}(h:Ev n σ c x (.bool i)):Rd P n σ c wb (.unOp .not t x) ty (.bool (!i)):=.mk fun d pos after gd a ha hc w1 _=>by
 simp [execOp,h a ha hc,Op.unary]
/-! strings -/
@[reducible] def Str(l:List UInt8):Value:=.string ⟨l.toArray⟩
theorem Yxc{t u:TypeId}{x y:Operand}{i j:List UInt8}(h:Ev n σ c x (Str i))(h':Ev n σ c y (Str j)):Rd P n σ c wb (.binOp .eql t x y u) ty (.bool (decide (i=j))):=.mk fun d pos after gd a ha hc w1 _=>by
 simp [execOp,h a ha hc,h' a ha hc,eqGuard_at_string,binOp,Op.stringOp];rw [Bool.eq_iff_iff];simp
theorem Qod{t u:TypeId}{x y:Operand}{i j:List UInt8}(h:Ev n σ c x (Str i))(h':Ev n σ c y (Str j)):Rd P n σ c wb (.binOp .neq t x y u) ty (.bool (!decide (i=j))):=.mk fun d pos after gd a ha hc w1 _=>by
 simp [execOp,h a ha hc,h' a ha hc,eqGuard_at_string,binOp,Op.stringOp];rw [Bool.eq_iff_iff];simp
theorem Jp{t:TypeId}(h:Xuc P t=true):P.underlying t=some .string:=by
 unfold Xuc at h;split at h;assumption;cases h
theorem Yaa{t:TypeId}{x:Operand}{i:List UInt8}(ht:Xuc P t=true)(h:Ev n σ c x (Str i)):Rd P n σ c wb (.call { callee:=.builtin .len,args:=#[x],argTypes:=#[t] }) ty (.int .i64 i.length):=.mk fun d pos after gd a ha hc w1 _=>by
 have hr:=run_len_string (P:=P) w1 t ty ⟨i.toArray⟩ (Jp ht);simp [execOp,resolve,invoke,builtin,h a ha hc,hr,ByteArray.size,goInt]
theorem Jj{t:TypeId}{x y:Operand}{l:List UInt8}{k:IntKind}{i:Int}(ht:Xuc P t=true)(h:Ev n σ c x (Str l))(h':Ev n σ c y (.int k i))(hi:c→0≤i∧i<l.length) :
 Rd P n σ c wb (.index t x y) ty (.int .u8 (l.getD i.toNat 0).toNat):=.mk fun d pos after gd a ha hc w1 _=>by
 obtain ⟨h0,h1⟩:=hi hc;have hlt:i.toNat<l.length:=by omega
 have hg:(⟨l.toArray⟩:ByteArray)[i.toNat]? = some l[i.toNat]:=by
  rw [ByteArray.getElem?_lt' _ _ (by simpa [ByteArray.size] using hlt)];rfl
 simp [execOp,h a ha hc,h' a ha hc,Instr.index,asIntOf,run_underlying (Jp ht),h0,hg,List.getD_eq_getElem?_getD,hlt]
theorem Xxb{t:TypeId}{x y z:Operand}{l:List UInt8}{k k':IntKind}{i j:Int}(ht:Xuc P t=true)(h:Ev n σ c x (Str l))(h':Ev n σ c y (.int k i))(h'':Ev n σ c z (.int k' j))(hi:c→0≤i∧i≤j∧j≤l.length) :
 Rd P n σ c wb (.slice t x (some y) (some z) none) ty (Str ((l.drop i.toNat).take (j.toNat-i.toNat))):=.mk fun d pos after gd a ha hc w1 _=>by
 obtain ⟨h0,h1,h2⟩:=hi hc;have e1:(0≤j∧j≤((⟨l.toArray⟩:ByteArray).size:Int)):=by simp [ByteArray.size];omega
 have e2:(0≤i∧i≤(j.toNat:Int)):=by omega
 simp only [execOp,h a ha hc,h' a ha hc,h'' a ha hc,Instr.sliceAt,Option.map_some,Option.map_none,Sem.run_bind,run_underlying (Jp ht),Result.andThen_ok];simp [Instr.slice,run_underlying (Jp ht),Instr.sliceBounds,Instr.sliceBound,asIntOf,e1,e2,ByteArray.extract_mk];intro hh;omega
theorem Ulb{t:TypeId}{x y:Operand}{l:List UInt8}{k:IntKind}{i:Int}(ht:Xuc P t=true)(h:Ev n σ c x (Str l))(h':Ev n σ c y (.int k i))(hi:c→0≤i∧i≤l.length) :
 Rd P n σ c wb (.slice t x (some y) none none) ty (Str (l.drop i.toNat)):=.mk fun d pos after gd a ha hc w1 _=>by
 obtain ⟨h0,h2⟩:=hi hc;have e2:(0≤i∧i≤((⟨l.toArray⟩:ByteArray).size:Int)):=by simp [ByteArray.size];omega
 have e3:(l.drop i.toNat).take ((⟨l.toArray⟩:ByteArray).size-i.toNat)=l.drop i.toNat:=by
  rw [List.take_of_length_le];simp [ByteArray.size]
 simp only [execOp,h a ha hc,h' a ha hc,Instr.sliceAt,Option.map_some,Option.map_none,Sem.run_bind,run_underlying (Jp ht),Result.andThen_ok];simp [Instr.slice,run_underlying (Jp ht),Instr.sliceBounds,Instr.sliceBound,asIntOf,e2,ByteArray.extract_mk,e3]
theorem Vvd{t:TypeId}{x z:Operand}{l:List UInt8}{k':IntKind}{j:Int}(ht:Xuc P t=true)(h:Ev n σ c x (Str l))(h'':Ev n σ c z (.int k' j))(hi:c→0≤j∧j≤l.length) :
 Rd P n σ c wb (.slice t x none (some z) none) ty (Str (l.take j.toNat)):=.mk fun d pos after gd a ha hc w1 _=>by
 obtain ⟨h1,h2⟩:=hi hc;have e1:(0≤j∧j≤((⟨l.toArray⟩:ByteArray).size:Int)):=by simp [ByteArray.size];omega
 simp only [execOp,h a ha hc,h'' a ha hc,Instr.sliceAt,Option.map_some,Option.map_none,Sem.run_bind,run_underlying (Jp ht),Result.andThen_ok];simp [Instr.slice,run_underlying (Jp ht),Instr.sliceBounds,Instr.sliceBound,asIntOf,e1,ByteArray.extract_mk]
/-! slices -/
theorem Uy{t e z by_:Nat}(h:tyElem P t=some (e,z,by_)):P.underlying t=some (.slice e)∧∃ i,P.info? e=some i∧i.size=z∧i.bytes=by_:=by
 unfold tyElem at h;split at h;rename_i e' he
 cases hi:P.info? e' with
 | none=>simp [hi] at h
 | some i =>
  simp only [hi,Option.map_some,Option.some.injEq,Prod.mk.injEq] at h;obtain ⟨rfl,h1,h2⟩:=h;exact ⟨he,i,hi,h1,h2⟩
 cases h
theorem Vha{t e z by_:Nat}{x:Operand}{b:Option Addr}{m q:Nat}(ht:tyElem P t=some (e,z,by_))(h:Ev n σ c x (.slice b m q)):Rd P n σ c wb (.call { callee:=.builtin .len,args:=#[x],argTypes:=#[t] }) ty (.int .i64 m):=.mk fun d pos after gd a ha hc w1 _=>by
 obtain ⟨hu,i,hi,hz,_⟩:=Uy ht;have he:P.underlying t=some (.slice (P.elem t)):=by rw [hu];simp [Program.elem,hu]
 have hr:=run_len_slice (P:=P) w1 t ty b m q he;simp [execOp,resolve,invoke,builtin,h a ha hc,hr,goInt]
theorem Qea{t e z by_:Nat}{x y:Operand}{b o m q:Nat}{k:IntKind}{i:Int}(ht:tyElem P t=some (e,z,by_))(h:Ev n σ c x (.slice (some ⟨b,o,none⟩) m q))(h':Ev n σ c y (.int k i))(hi:c→0≤i∧i<m) :
 Rd P n σ c wb (.indexAddr t x y) ty (.pointer (some ⟨b,o+i.toNat*z,none⟩)):=.mk fun d pos after gd a ha hc w1 _=>by
 obtain ⟨hu,i',hi',hz,_⟩:=Uy ht;obtain ⟨h0,h1⟩:=hi hc;simp [execOp,h a ha hc,h' a ha hc,Instr.indexAt,asIntOf,run_underlying hu,h0,h1,sizeOf,typeInfo,hi',hz,Addr.add_lit]
end
def Ret(P:Program)(f:FuncId)(args:Array Value)(w:World)(R:Value→World→Prop):Prop:=Calls P f args w fun e w'=>∃ v,e = .returned v∧R v w'
theorem Ret.mono{P:Program}{f:FuncId}{args:Array Value}{w:World}{R R':Value→World→Prop}(h:Ret P f args w R)(hr:∀ v w',R v w'→R' v w'):Ret P f args w R' :=
 Calls.mono h fun _ _ ⟨v,e,k⟩=>⟨v,e,hr v _ k⟩
theorem Ret.calls{P:Program}{f:FuncId}{args:Array Value}{w:World}{R:Value→World→Prop}(h:Ret P f args w R){R':Ending→World→Prop}(hr:∀ v w',R v w'→R' (.returned v) w'):Calls P f args w R' :=
 Calls.mono h fun e w' ⟨v,he,k⟩=>by subst he;exact hr v w' k
def Blk(w:World)(b:Nat)(e:TypeId)(l:List Value):Prop:=w.heap[b]? = some (.cells l.toArray e (0,0))
theorem Blk.lt{w:World}{b:Nat}{e:TypeId}{l:List Value}(h:Blk w b e l):b<w.heap.size:=by
 rcases Nat.lt_or_ge b w.heap.size with hlt|hge;exact hlt;unfold Blk at h;rw [Array.getElem?_eq_none hge] at h;cases h
theorem Blk.row{w:World}{b:Nat}{e:TypeId}{l:List Value}(h:Blk w b e l):RowAt w b 0 l:=fun j v hj=>by
 unfold Blk at h;simp [World.cell?,h,hj]
theorem Blk.at_{w:World}{b:Nat}{e:TypeId}{l:List Value}(h:Blk w b e l){i:Nat}{v:Value}(hi:l[i]? = some v):w.cell? ⟨b,i,none⟩=some v:=by
 have:=h.row i v hi;rwa [Nat.zero_add] at this
theorem Blk.grow{w w1:World}{b:Nat}{e:TypeId}{l:List Value}(h:Blk w b e l)(hg:G w w1):Blk w1 b e l:=(hg.block h.lt).trans h
theorem Blk.keep{w w1:World}{b:Nat}{e:TypeId}{l:List Value}{row:Option Nat}(h:Blk w b e l)(hg:w.grownBy w1 row)(hne:some b≠row):Blk w1 b e l:=(hg.block b h.lt hne).trans h
structure New (w w1:World) (b:Nat) (e:TypeId) (l:List Value):Prop where
  at_:b=w.heap.size
  blk:Blk w1 b e l
  g:G w w1
  size:w1.heap.size=w.heap.size+1
theorem New.ge{a w w1:World}{b:Nat}{e:TypeId}{l:List Value}(h:New w w1 b e l)(g:G a w):a.heap.size≤b:=by have:=g.size;have:=h.at_;omega
theorem New.ne{w w1:World}{b:Nat}{e:TypeId}{l:List Value}(h:New w w1 b e l){b':Nat}{e':TypeId}{l':List Value}(hB:Blk w b' e' l'):b≠b':=by have:=hB.lt;have:=h.at_;omega
theorem Yea(w:World)(e:TypeId)(l:List Value):New w (w.alloc (.cells l.toArray e)) w.heap.size e l :=
 ⟨rfl,by unfold Blk;exact heap_alloc_new w _,(Below.refl _ _).alloc (Nat.le_refl _) _,by simp⟩
theorem G.only{w w1:World}(h:G w w1)(row:Option Nat):w.grownBy w1 row:=⟨h.os,h.tape,h.output,h.size,fun k hk _=>h.block hk⟩
section
variable (P:Program) (Z:List PanicEntry→Act→World→Prop) (ops:List Oper) (cl:List Nat) (lv:List Bool) (W0:World) (n:Nat) (K:Act→World→Prop)
structure SR (k:Nat) (l:List Oper) (σ:List Ent) (w:World):Prop where mk ::
  h:(∀ j o,l[j]? = some o→ops.toArray[k+j]? = some o)→∀ a,Kn n σ a→RS P Z ops.toArray (clOf cl) (lvOf lv) W0 K (List.range' k l.length) a w
end
section
variable {P:Program} {Z:List PanicEntry→Act→World→Prop} {ops:List Oper} {cl:List Nat} {lv:List Bool} {W0:World} {n:Nat} {K:Act→World→Prop} {k:Nat} {rest:List Oper} {σ:List Ent} {w:World} {d:Nat} {op:Op} {ty:TypeId} {pos:String} {after:Array Edge} {v:Value}
instance {l:List Oper}:CoeFun (SR P Z ops cl lv W0 n K k l σ w) fun _=>(∀ j o,l[j]? = some o→ops.toArray[k+j]? = some o)→∀ a,Kn n σ a→RS P Z ops.toArray (clOf cl) (lvOf lv) W0 K (List.range' k l.length) a w:=⟨SR.h⟩
theorem Ze(h:∀ a,Kn n σ a→K a w):SR P Z ops cl lv W0 n K k [] σ w:=.mk fun _ a ha=>h a ha
theorem Vc{l:List Oper}(τ:List Ent)(hs:Sub τ σ)(h:SR P Z ops cl lv W0 n K k l τ w):SR P Z ops cl lv W0 n K k l σ w:=.mk fun hl a ha=>h hl a (ha.sub hs)
theorem Yfa{l:List Oper}{o:Oper}(hl:∀ j o',(o::l)[j]? = some o'→ops.toArray[k+j]? = some o'):ops.toArray[k]? = some o∧∀ j o',l[j]? = some o'→ops.toArray[k+1+j]? = some o' :=
 ⟨hl 0 o rfl,fun j o' h=>by have:=hl (j+1) o' h;rwa [show k+(j+1)=k+1+j by omega] at this⟩
theorem Vtc{d:Option Nat}{y:Nat→Option Bool}:Region.wanted ⟨d,op,ty,pos,after,none⟩ y=true:=rfl
theorem Wea(hb:(Nat.beq (clOf cl k) 0&&lvOf lv k&&Nat.blt d n)=true)(hr:Rd P n σ True w op ty v)(h:SR P Z ops cl lv W0 n K (k+1) rest ((d,True,v) :: σ) w) :
 SR P Z ops cl lv W0 n K k (⟨some d,op,ty,pos,after,none⟩::rest) σ w:=.mk fun hl a ha=>by
 obtain ⟨h0,h1⟩:=Yfa hl;simp only [Bool.and_eq_true] at hb;obtain ⟨⟨hc,hv⟩,hd⟩:=hb;rw [List.length_cons,List.range'_succ];refine ⟨_,h0,?_⟩;have hc:=Nat.eq_of_beq_eq_true hc;rw [if_pos (.inl hc)];refine ⟨v,fun _ w1 hg=>?_,(fun hn=>by cases hn),h h1 _ (ha.put hd (fun _=>rfl) (fun hn=>absurd trivial hn))⟩;have hg:=hg.resolve_left (by omega);rw [if_pos hv] at hg;exact hr _ _ _ _ a ha trivial w1 hg
theorem Qfa(hb:(Nat.beq (clOf cl k) 0 && !lvOf lv k&&Nat.blt d n)=true)(hr:Rd P n σ True W0 op ty v)(h:SR P Z ops cl lv W0 n K (k+1) rest ((d,True,v) :: σ) w) :
 SR P Z ops cl lv W0 n K k (⟨some d,op,ty,pos,after,none⟩::rest) σ w:=.mk fun hl a ha=>by
 obtain ⟨h0,h1⟩:=Yfa hl;simp only [Bool.and_eq_true,Bool.not_eq_true'] at hb;obtain ⟨⟨hc,hv⟩,hd⟩:=hb;rw [List.length_cons,List.range'_succ];refine ⟨_,h0,?_⟩;have hc:=Nat.eq_of_beq_eq_true hc;rw [if_pos (.inl hc)];refine ⟨v,fun _ w1 hg=>?_,(fun hn=>by cases hn),h h1 _ (ha.put hd (fun _=>rfl) (fun hn=>absurd trivial hn))⟩;have hg:=hg.resolve_left (by omega);rw [if_neg (by rw [hv];simp)] at hg;exact hr _ _ _ _ a ha trivial w1 hg
theorem Xyb{g t:Nat}{want b:Bool}{c0:Prop}{a:Act}(hgd:((ops.toArray[g]?).bind (·.dst))=some t)(hlk:look σ t=some (c0,.bool b))(ha:Kn n σ a){d:Option Nat} :
 Region.wanted ⟨d,op,ty,pos,after,some (g,want)⟩ (yielded ops.toArray a.tmps)=true↔c0∧b=want:=by
 obtain ⟨h1,h2⟩:=ha.2.2 t c0 (.bool b) hlk;unfold Region.wanted yielded;simp only [hgd,Option.bind_some];by_cases hc:c0;rw [h1 hc];simp [hc];rw [h2 hc];simp [hc,undef]
open Classical in
theorem Ye{g t:Nat}{want b:Bool}{c0:Prop}(hb:(Nat.beq (clOf cl k) 0&&lvOf lv k&&Nat.blt d n)=true)(hgd:((ops.toArray[g]?).bind (·.dst))=some t)(hlk:look σ t=some (c0,.bool b))
 (hr:Rd P n σ (c0∧b=want) w op ty v) (h:SR P Z ops cl lv W0 n K (k+1) rest ((d,c0∧b=want,v) :: σ) w) :
 SR P Z ops cl lv W0 n K k (⟨some d,op,ty,pos,after,some (g,want)⟩::rest) σ w:=.mk fun hl a ha=>by
 obtain ⟨h0,h1⟩:=Yfa hl;simp only [Bool.and_eq_true] at hb;obtain ⟨⟨hc,hv⟩,hd⟩:=hb;rw [List.length_cons,List.range'_succ];refine ⟨_,h0,?_⟩;have hc:=Nat.eq_of_beq_eq_true hc;rw [if_pos (.inl hc)];have hw:=Xyb (op:=op) (ty:=ty) (pos:=pos) (after:=after) (want:=want) (d:=some d) hgd hlk ha;refine ⟨if c0∧b=want then v else undef,fun hwt w1 hg=>?_,fun hn=>?_,h h1 _ (ha.put hd (fun hh=>if_pos hh) (fun hh=>if_neg hh))⟩;have hg:=hg.resolve_left (by omega);rw [if_pos hv] at hg;rw [if_pos (hw.1 hwt)];exact hr _ _ _ _ a ha (hw.1 hwt) w1 hg;rw [if_neg (fun hh=>by rw [hw.2 hh] at hn;cases hn)]
open Classical in
theorem Zo(hb:(Nat.beq (clOf cl k) 3&&Nat.blt d n)=true)(hr:∀ wb,Rd P n σ True wb op ty v)(h:SR P Z ops cl lv W0 n K (k+1) rest ((d,True,v) :: σ) w) :
 SR P Z ops cl lv W0 n K k (⟨some d,op,ty,pos,after,none⟩::rest) σ w:=.mk fun hl a ha=>by
 obtain ⟨h0,h1⟩:=Yfa hl;simp only [Bool.and_eq_true] at hb;rw [List.length_cons,List.range'_succ];refine ⟨_,h0,?_⟩;rw [if_pos (.inr (Nat.eq_of_beq_eq_true hb.1))];exact ⟨v,fun _ w1 _=>hr w1 _ _ _ _ a ha trivial w1 (G.refl _),(fun hn=>by cases hn),h h1 _ (ha.put hb.2 (fun _=>rfl) (fun hn=>absurd trivial hn))⟩
open Classical in
theorem Zi{g t:Nat}{want b:Bool}{c0:Prop}(hb:(Nat.beq (clOf cl k) 3&&Nat.blt d n)=true)(hgd:((ops.toArray[g]?).bind (·.dst))=some t)(hlk:look σ t=some (c0,.bool b))
 (hr:∀ wb,Rd P n σ (c0∧b=want) wb op ty v) (h:SR P Z ops cl lv W0 n K (k+1) rest ((d,c0∧b=want,v) :: σ) w) :
 SR P Z ops cl lv W0 n K k (⟨some d,op,ty,pos,after,some (g,want)⟩::rest) σ w:=.mk fun hl a ha=>by
 obtain ⟨h0,h1⟩:=Yfa hl;simp only [Bool.and_eq_true] at hb;rw [List.length_cons,List.range'_succ];refine ⟨_,h0,?_⟩;rw [if_pos (.inr (Nat.eq_of_beq_eq_true hb.1))];have hw:=Xyb (op:=op) (ty:=ty) (pos:=pos) (after:=after) (want:=want) (d:=some d) hgd hlk ha;refine ⟨if c0∧b=want then v else undef,fun hwt w1 _=>?_,fun hn=>?_,h h1 _ (ha.put hb.2 (fun hh=>if_pos hh) (fun hh=>if_neg hh))⟩;rw [if_pos (hw.1 hwt)];exact hr w1 _ _ _ _ a ha (hw.1 hwt) w1 (G.refl _);rw [if_neg (fun hh=>by rw [hw.2 hh] at hn;cases hn)]
def RunV(P:Program)(n:Nat)(σ:List Ent)(c:Prop)(w:World)(op:Op)(ty:TypeId)(v:Value)(w':World):Prop :=
 ∀ (d:Option Tmp) (pos:String) (after:Array Edge) (g:Option (Nat×Bool)) (a:Act),Kn n σ a→c→(execOp a.eval ⟨d,op,ty,pos,after,g⟩).run P w = .ok (.value v) w'
def RunS(P:Program)(n:Nat)(σ:List Ent)(c:Prop)(w:World)(op:Op)(ty:TypeId)(w':World):Prop :=
 ∀ (d:Option Tmp) (pos:String) (after:Array Edge) (g:Option (Nat×Bool)) (a:Act),Kn n σ a→c→(execOp a.eval ⟨d,op,ty,pos,after,g⟩).run P w = .ok .skip w'
def RunC(P:Program)(n:Nat)(σ:List Ent)(c:Prop)(w:World)(op:Op)(ty:TypeId)(f:FuncId)(args:Array Value):Prop :=
 ∀ (d:Option Tmp) (pos:String) (after:Array Edge) (g:Option (Nat×Bool)) (a:Act),Kn n σ a→c→(execOp a.eval ⟨d,op,ty,pos,after,g⟩).run P w = .ok (.enter f args) w
theorem Zzb{w':World}(hb:(!Nat.beq (clOf cl k) 0 && !Nat.beq (clOf cl k) 3&&Nat.blt d n)=true)(hr:RunV P n σ True w op ty v w')(hg:clOf cl k=1→G w w')(h:SR P Z ops cl lv W0 n K (k+1) rest ((d,True,v) :: σ) w') :
 SR P Z ops cl lv W0 n K k (⟨some d,op,ty,pos,after,none⟩::rest) σ w:=.mk fun hl a ha=>by
 obtain ⟨h0,h1⟩:=Yfa hl;simp only [Bool.and_eq_true,Bool.not_eq_true'] at hb;rw [List.length_cons,List.range'_succ];refine ⟨_,h0,?_⟩;rw [if_neg (fun he=>by rcases he with he|he <;> rw [he] at hb <;> simp at hb),if_pos Vtc]
 exact .inl ⟨v,w',hr _ _ _ _ a ha trivial,fun hh=>hg (by simpa using hh),h h1 _ (ha.put hb.2 (fun _=>rfl) (fun hn=>absurd trivial hn))⟩
theorem Jye{w':World}(hb:Nat.beq (clOf cl k) 2=true)(hr:RunS P n σ True w op ty w')(h:SR P Z ops cl lv W0 n K (k+1) rest σ w') :
 SR P Z ops cl lv W0 n K k (⟨none,op,ty,pos,after,none⟩::rest) σ w:=.mk fun hl a ha=>by
 obtain ⟨h0,h1⟩:=Yfa hl;have hc:=Nat.eq_of_beq_eq_true hb;rw [List.length_cons,List.range'_succ];refine ⟨_,h0,?_⟩;rw [if_neg (by omega),if_pos Vtc];exact .inr (.inl ⟨w',hr _ _ _ _ a ha trivial,fun hh=>by rw [hc] at hh;simp at hh,h h1 _ ha⟩)
theorem Xva{f:FuncId}{args:Array Value}{R:Value→World→Prop}(hb:(!Nat.beq (clOf cl k) 0 && !Nat.beq (clOf cl k) 3&&Nat.blt d n)=true)(hr:RunC P n σ True w op ty f args)(hC:Ret P f args w R)
 (h:∀ v w',R v w'→(clOf cl k=1→G w w')∧SR P Z ops cl lv W0 n K (k+1) rest ((d,True,v) :: σ) w') :
 SR P Z ops cl lv W0 n K k (⟨some d,op,ty,pos,after,none⟩::rest) σ w:=.mk fun hl a ha=>by
 obtain ⟨h0,h1⟩:=Yfa hl;simp only [Bool.and_eq_true,Bool.not_eq_true'] at hb;rw [List.length_cons,List.range'_succ];refine ⟨_,h0,?_⟩;rw [if_neg (fun he=>by rcases he with he|he <;> rw [he] at hb <;> simp at hb),if_pos Vtc]
 refine .inr (.inr (.inl ⟨f,args,hr _ _ _ _ a ha trivial,Calls.mono hC fun e w' ⟨v,he,hv⟩=>.inl ?_⟩));obtain ⟨q1,q2⟩:=h v w' hv;exact ⟨v,he,fun hh=>q1 (by simpa using hh),q2 h1 _ (ha.put hb.2 (fun _=>rfl) (fun hn=>absurd trivial hn))⟩
theorem Vrf{g t:Nat}{want b:Bool}{c0:Prop}{f:FuncId}{args:Array Value}{R:Value→World→Prop}(hb:(!Nat.beq (clOf cl k) 0 && !Nat.beq (clOf cl k) 3&&Nat.blt d n)=true)
 (hgd:((ops.toArray[g]?).bind (·.dst))=some t) (hlk:look σ t=some (c0,.bool b)) (hr:c0∧b=want→RunC P n σ (c0∧b=want) w op ty f args) (hC:c0∧b=want→Ret P f args w R)
 (h:∀ v w',(c0∧b=want)→R v w'→(clOf cl k=1→G w w')∧SR P Z ops cl lv W0 n K (k+1) rest ((d,c0∧b=want,v) :: σ) w')
 (h':¬ (c0∧b=want)→SR P Z ops cl lv W0 n K (k+1) rest ((d,c0∧b=want,undef) :: σ) w) :
 SR P Z ops cl lv W0 n K k (⟨some d,op,ty,pos,after,some (g,want)⟩::rest) σ w:=.mk fun hl a ha=>by
 obtain ⟨h0,h1⟩:=Yfa hl;simp only [Bool.and_eq_true,Bool.not_eq_true'] at hb;rw [List.length_cons,List.range'_succ];have hw:=Xyb (op:=op) (ty:=ty) (pos:=pos) (after:=after) (want:=want) (d:=some d) hgd hlk ha;refine ⟨_,h0,?_⟩;rw [if_neg (fun he=>by rcases he with he|he <;> rw [he] at hb <;> simp at hb)]
 by_cases hh:c0∧b=want;rw [if_pos (hw.2 hh)];refine .inr (.inr (.inl ⟨f,args,hr hh _ _ _ _ a ha hh,Calls.mono (hC hh) fun e w' ⟨v,he,hv⟩=>.inl ?_⟩));obtain ⟨q1,q2⟩:=h v w' hh hv;exact ⟨v,he,fun hq=>q1 (by simpa using hq),q2 h1 _ (ha.put hb.2 (fun _=>rfl) (fun hn=>absurd hh hn))⟩;rw [if_neg (fun hq=>hh (hw.1 hq))];exact h' hh h1 _ (ha.put hb.2 (fun hq=>absurd hq hh) (fun _=>rfl))
theorem Vh{f:FuncId}{args:Array Value}(hb:(!Nat.beq (clOf cl k) 0 && !Nat.beq (clOf cl k) 3&&Nat.blt d n)=true)(hr:RunC P n σ True w op ty f args)(hC:Ret P f args w fun u w'=>u=v∧G w w')
  (h:∀ w',G w w'→SR P Z ops cl lv W0 n K (k+1) rest ((d,True,v) :: σ) w') :
  SR P Z ops cl lv W0 n K k (⟨some d,op,ty,pos,after,none⟩::rest) σ w :=
 Xva hb hr hC fun u w' ⟨hu,hg⟩=>⟨fun _=>hg,by subst hu;exact h w' hg⟩
theorem Xy{g t:Nat}{want b:Bool}{c0:Prop}{f:FuncId}{args:Array Value}(hb:(!Nat.beq (clOf cl k) 0 && !Nat.beq (clOf cl k) 3&&Nat.blt d n)=true)(hgd:((ops.toArray[g]?).bind (·.dst))=some t)(hlk:look σ t=some (c0,.bool b))
 (hr:c0∧b=want→RunC P n σ (c0∧b=want) w op ty f args) (hC:c0∧b=want→Ret P f args w fun u w'=>u=v∧G w w')
 (h:∀ w',G w w'→SR P Z ops cl lv W0 n K (k+1) rest ((d,c0∧b=want,v) :: σ) w') :
 SR P Z ops cl lv W0 n K k (⟨some d,op,ty,pos,after,some (g,want)⟩::rest) σ w:=.mk fun hl a ha=>by
 obtain ⟨h0,h1⟩:=Yfa hl;simp only [Bool.and_eq_true,Bool.not_eq_true'] at hb;rw [List.length_cons,List.range'_succ];have hw:=Xyb (op:=op) (ty:=ty) (pos:=pos) (after:=after) (want:=want) (d:=some d) hgd hlk ha;refine ⟨_,h0,?_⟩;rw [if_neg (fun he=>by rcases he with he|he <;> rw [he] at hb <;> simp at hb)]
 by_cases hh:c0∧b=want;rw [if_pos (hw.2 hh)];refine .inr (.inr (.inl ⟨f,args,hr hh _ _ _ _ a ha hh,Calls.mono (hC hh) fun e w' ⟨u,he,hu,hg⟩=>.inl ?_⟩));subst hu;exact ⟨u,he,fun _=>hg,h w' hg h1 _ (ha.put hb.2 (fun _=>rfl) (fun hn=>absurd hh hn))⟩;rw [if_neg (fun hq=>hh (hw.1 hq))];exact h w (G.refl w) h1 _ (ha.put hb.2 (fun hq=>absurd hq hh) (fun _=>rfl))
/-! the operations that make memory -/
theorem Via{elem:TypeId}{x:Operand}{u:Value}{l:List Value}(hb:(!Nat.beq (clOf cl k) 0 && !Nat.beq (clOf cl k) 3&&Nat.blt d n)=true)(hx:Ev n σ True x u)(hl:u.cells=l.toArray)
  (h:∀ b w1,New w w1 b elem l→SR P Z ops cl lv W0 n K (k+1) rest ((d,True,.pointer (some ⟨b,0,none⟩)) :: σ) w1) :
  SR P Z ops cl lv W0 n K k (⟨some d,.box elem x,ty,pos,after,none⟩::rest) σ w :=
 Zzb hb (w':=w.alloc (.cells l.toArray elem)) (fun d pos after g a ha _=>by simp [execOp,hx a ha trivial,Instr.box,newVar,newRow,hl]) (fun _=>(Yea w elem l).g) (h _ _ (Yea w elem l))
def zeroOf(P:Program)(t:TypeId):Option Value:=match P.info? t with|some i=>i.zero|none=>none
theorem Wxa{t:TypeId}{z:Value}(h:zeroOf P t=some z):∃ i,P.info? t=some i∧i.zero=some z:=by
 unfold zeroOf at h;split at h;exact ⟨_,by assumption,h⟩;cases h
theorem Jg{elem:TypeId}{z:Value}{l:List Value}(hb:(!Nat.beq (clOf cl k) 0 && !Nat.beq (clOf cl k) 3&&Nat.blt d n)=true)(hz:zeroOf P elem=some z)(hl:z.cells=l.toArray)
 (h:∀ b w1,New w w1 b elem l→SR P Z ops cl lv W0 n K (k+1) rest ((d,True,.pointer (some ⟨b,0,none⟩)) :: σ) w1) :
 SR P Z ops cl lv W0 n K k (⟨some d,.alloc elem,ty,pos,after,none⟩::rest) σ w:=by
 obtain ⟨i,hi,hz'⟩:=Wxa hz;exact Zzb hb (w':=w.alloc (.cells l.toArray elem)) (fun d pos after g a ha _=>by simp [execOp,Instr.alloc,zeroValue,typeInfo,hi,hz',newVar,newRow,hl]) (fun _=>(Yea w elem l).g) (h _ _ (Yea w elem l))
def Usa(n:Nat)(σ:List Ent)(c:Prop)(ps:Array (Nat×Operand))(vs:List (Nat×Value)):Prop:=∀ a,Kn n σ a→c→(ps.map fun p=>(p.1,a.eval p.2)).toList=vs
theorem Vu{n:Nat}{σ:List Ent}{c:Prop}:Usa n σ c #[] []:=fun _ _ _=>by simp
theorem Xt{n:Nat}{σ:List Ent}{c:Prop}{i:Nat}{x:Operand}{u:Value}{ps:List (Nat×Operand)}{vs:List (Nat×Value)}(h:Ev n σ c x u)(k:Usa n σ c ps.toArray vs):Usa n σ c ((i,x)::ps).toArray ((i,u)::vs):=fun a ha hc=>by
 have:=k a ha hc;simp only [List.map_toArray,List.toList_toArray] at this ⊢;rw [List.map_cons,this,h a ha hc]
def Vj(P:Program)(t:TypeId):Option (List (Nat×Nat)):=match P.underlying t with
 | some (.struct fs)=>fs.toList.mapM fun f=>(P.info? f.type).map fun i=>(f.offset,i.size)
 | _=>none
theorem Znd(w:World):∀ (fs:List Field) (ps:List (Nat×Nat)),(fs.mapM fun f=>(P.info? f.type).map fun i=>(f.offset,i.size))=some ps→
  (fs.mapM (fun f=>(do pure (f.offset,← sizeOf f.type):Sem (Nat×Nat)))).run P w = .ok ps w
 | [],ps,h=>by simp at h;subst h;rfl
 | f::fs,ps,h=>by
  rw [List.mapM_cons] at h
  cases hi:P.info? f.type with
  | none=>rw [hi] at h;simp at h
  | some i =>
   rw [hi] at h
   cases hr:(fs.mapM fun f=>(P.info? f.type).map fun i=>(f.offset,i.size)) with
   | none=>rw [hr] at h;simp at h
   | some qs =>
    rw [hr] at h;simp at h;subst h;have:=Znd w fs qs hr;rw [List.mapM_cons];simp [sizeOf,typeInfo,hi] at this ⊢;rw [this];simp
def Uxc(pl:Nat→Option (Nat×Nat)):List Value→List (Nat×Value)→Option (List Value)
 | cs,[]=>some cs
 | cs,(i,v)::rest=>match pl i with
  | none=>none
  | some (off,z)=>if Nat.beq v.cells.toList.length z&&Nat.ble (off+z) cs.length then Uxc pl (cs.take off++v.cells.toList++cs.drop (off+z)) rest else none
theorem Zod:∀ (vs:List Value) (off i:Nat) (cs:List Value),off+i+vs.length≤cs.length→
  (vs.zipIdx i).foldl (fun (cs:Array Value) (p:Value×Nat)=>cs.setIfInBounds (off+p.2) p.1) cs.toArray=(cs.take (off+i)++vs++cs.drop (off+i+vs.length)).toArray
 | [],off,i,cs,_=>by simp
 | v::vs,off,i,cs,h=>by
  simp only [List.length_cons] at h;rw [List.zipIdx_cons,List.foldl_cons];have e:(cs.toArray.setIfInBounds (off+i) v)=(cs.set (off+i) v).toArray:=by simp
  simp only [e];rw [Zod vs off (i+1) _ (by simp;omega)];have hlt:off+i<cs.length:=by omega
  have e1:(cs.set (off+i) v).take (off+(i+1))=cs.take (off+i)++[v]:=by
   rw [show off+(i+1)=(off+i)+1 by omega,List.take_add_one,List.take_set_of_le (Nat.le_refl _)];simp [hlt]
  have e2:(cs.set (off+i) v).drop (off+(i+1)+vs.length)=cs.drop (off+i+(v::vs).length):=by
   rw [List.drop_set_of_lt (by omega)];congr 1;simp;omega
  rw [e1,e2];simp [List.append_assoc]
theorem Jrb(pl:Nat→Option (Nat×Nat)):∀ (vs:List (Nat×Value)) (cs l:List Value),Uxc pl cs vs=some l→Instr.fill pl cs.toArray vs=some l.toArray
 | [],cs,l,h=>by injection h with h;subst h;rfl
 | (i,v)::rest,cs,l,h=>by
  unfold Uxc at h;unfold Instr.fill;split at h;cases h;rename_i off z hp;split at h;rename_i hc;simp only [Bool.and_eq_true] at hc;have h1:=Nat.eq_of_beq_eq_true hc.1;have h2:=Nat.le_of_ble_eq_true hc.2;simp only [hp];have h3:v.cells.size=z:=by simpa using h1
  rw [if_neg (by simp [h3];omega)]
  have e:v.cells.zipIdx.foldl (fun cs x=>cs.setIfInBounds (off+x.2) x.1) cs.toArray=(cs.take off++v.cells.toList++cs.drop (off+z)).toArray:=by
   have:=Zod v.cells.toList off 0 cs (by rw [h1];omega);rw [h1] at this;simp only [Nat.add_zero] at this;rw [← this,← Array.foldl_toList,Array.toList_zipIdx]
  have e':=Jrb pl rest _ l h;rw [← e] at e';exact e';cases h
theorem Uz{c:Prop}{wb:World}{t:TypeId}{ps:Array (Nat×Operand)}{vs:List (Nat×Value)}{pl:List (Nat×Nat)}{z:Value}{zl:List Value}(l:List Value)(hz:zeroOf P t=some z)(hzl:z.cells=zl.toArray)(hp:Vj P t=some pl)(hx:Usa n σ c ps vs)
 (hf:Uxc (fun (i:Nat)=>pl[i]?) zl vs=some l):Rd P n σ c wb (.build t ps) ty (.agg l.toArray):=.mk fun d pos after g a ha hc w1 _=>by
 have hf:=Jrb _ _ _ _ hf;rw [← hzl] at hf;obtain ⟨i,hi,hz'⟩:=Wxa hz;unfold Vj at hp;split at hp;rename_i fs hfs;have hpl:=Znd (P:=P) w1 fs.toList pl hp
 have hpl':(fs.mapM (fun f=>(do pure (f.offset,← sizeOf f.type):Sem (Nat×Nat)))).run P w1 = .ok pl.toArray w1:=by
  rw [Array.mapM_eq_mapM_toList];simp only [Sem.run_map,hpl,Result.andThen_ok]
 have hx':=hx a ha hc;simp only [execOp,Instr.build,Sem.run_bind,zeroValue,typeInfo,run_program,Result.andThen_ok,hi,hz',Sem.run_pure,run_underlying hfs];rw [hpl'];simp only [Result.andThen_ok];have hfun:(fun (x:Nat)=>pl.toArray[x]?)=(fun (i:Nat)=>pl[i]?):=by funext i;simp
 rw [hfun,hx',hf];rfl;cases hp
def Vwd(z:Nat):Nat→List (Nat×Value)→Option (List Value)
 | _,[]=>some []
 | k,(i,v)::rest=>if Nat.beq i k&&Nat.beq v.cells.toList.length z then (Vwd z (k+1) rest).map (v.cells.toList ++ ·) else none
theorem Yyc(z:Nat):∀ (vs:List (Nat×Value)) (k:Nat) (done cs l:List Value),Vwd z k vs=some l→done.length=k*z→cs.length=(k+vs.length)*z→cs.take (k*z)=done→
  Uxc (fun i=>some (i*z,z)) cs vs=some (done++l)
 | [],k,done,cs,l,h,h1,h2,h3=>by
  injection h with h;subst h;unfold Uxc;rw [← h3,List.append_nil,List.take_of_length_le (by rw [h2];simp)]
 | (i,v)::rest,k,done,cs,l,h,h1,h2,h3=>by
  unfold Vwd at h;split at h
  ·rename_i hc
   simp only [Bool.and_eq_true] at hc;have e1:=Nat.eq_of_beq_eq_true hc.1;have e2:=Nat.eq_of_beq_eq_true hc.2;subst e1
   cases hr:Vwd z (i+1) rest with
   | none=>rw [hr] at h;cases h
   | some l' =>
    rw [hr] at h;injection h with h;subst h;unfold Uxc;simp only [List.length_cons] at h2;have hm:(i+1)*z=i*z+z:=by rw [Nat.add_mul,Nat.one_mul]
    have hm2:(i+(rest.length+1))*z=i*z+z+rest.length*z:=by rw [Nat.add_mul,Nat.add_mul,Nat.one_mul];omega
    have hle:i*z+z≤cs.length:=by rw [h2,hm2];omega
    dsimp only;rw [if_pos (by rw [Bool.and_eq_true];exact ⟨hc.2,Nat.ble_eq_true_of_le hle⟩)]
    have:=Yyc z rest (i+1) (done++v.cells.toList) (cs.take (i*z)++v.cells.toList++cs.drop (i*z+z)) l' hr (by rw [List.length_append,h1,e2,hm]) (by
     rw [List.length_append,List.length_append,e2,List.length_take,List.length_drop,h2,hm2,Nat.add_mul,hm];omega) (by
     rw [hm,List.take_append_of_le_length (by rw [List.length_append,e2,List.length_take];omega),List.take_of_length_le (by rw [List.length_append,e2,List.length_take];omega),h3])
    rw [this,List.append_assoc]
  · cases h
theorem Wy{t e z by_ m:Nat}{ps:Array (Nat×Operand)}{vs:List (Nat×Value)}{zv:Value}(l:List Value)(hb:(!Nat.beq (clOf cl k) 0 && !Nat.beq (clOf cl k) 3&&Nat.blt d n)=true)(ht:tyElem P t=some (e,z,by_))(hz:zeroOf P e=some zv)
 (hx:Usa n σ True ps vs) (hm:(Nat.ble (m*z) 16777216 && !Nat.beq (m*z) 0&&Nat.beq vs.length m)=true) (hf:Vwd z 0 vs=some l)
 (h:∀ b w1,New w w1 b e l→SR P Z ops cl lv W0 n K (k+1) rest ((d,True,.slice (some ⟨b,0,none⟩) m m) :: σ) w1) :
 SR P Z ops cl lv W0 n K k (⟨some d,.buildSlice t m ps,ty,pos,after,none⟩::rest) σ w:=by
 obtain ⟨hu,i,hi,hsz,_⟩:=Uy ht;obtain ⟨i',hi',hz'⟩:=Wxa hz;obtain rfl:i=i':=Option.some.inj (hi.symm.trans hi');simp only [Bool.and_eq_true,Bool.not_eq_true'] at hm;have hm1:¬ (m*z>2 ^ 24):=by have:=Nat.le_of_ble_eq_true hm.1.1;omega
 have hm2:¬ (m*z=0):=by intro he;rw [he] at hm;simp at hm
 have hvl:=Nat.eq_of_beq_eq_true hm.2
 have hfill:Instr.fill (fun i=>some (i*z,z)) ((Array.range (m*z)).map (zv.cells[· % zv.cells.size]!)) vs=some l.toArray:=by
  have h1:=Yyc z vs 0 [] ((Array.range (m*z)).map (zv.cells[· % zv.cells.size]!)).toList l hf (by simp) (by simp [hvl]) (by simp);have:=Jrb _ _ _ _ h1;rwa [Array.toArray_toList] at this
 refine Zzb hb (w':=w.alloc (.cells l.toArray e)) (fun d pos after g a ha _=>?_) (fun _=>(Yea w e l).g) (h _ _ (Yea w e l));have hx':=hx a ha trivial;simp only [execOp,Instr.buildSlice,Sem.run_bind,run_underlying hu,Result.andThen_ok,sizeOf,typeInfo,run_program,hi,Sem.run_pure,hsz,if_neg hm1,if_neg hm2,zeroValue,hz'];rw [hx',hfill];simp [newRow]
/-! calls -/
def goFn(P:Program)(f:FuncId):Bool:=match P.funcs[f]? with|some fn=>!(fn.name == "runtime.NumGoroutine")&&fn.body.isSome|none=>false
def Qga(n:Nat)(σ:List Ent)(c:Prop)(xs:List Operand)(vs:List Value):Prop:=∀ a,Kn n σ a→c→xs.map a.eval=vs
theorem Xl{n:Nat}{σ:List Ent}{c:Prop}:Qga n σ c [] []:=fun _ _ _=>rfl
theorem Yr{n:Nat}{σ:List Ent}{c:Prop}{x:Operand}{u:Value}{xs:List Operand}{vs:List Value}(h:Ev n σ c x u)(k:Qga n σ c xs vs):Qga n σ c (x::xs) (u::vs):=fun a ha hc=>by
 rw [List.map_cons,h a ha hc,k a ha hc]
theorem Vsf{f:FuncId}(hf:goFn P f=true)(args:Array Value)(w:World):(callFunc f args).run P w = .ok (.enter f args) w:=by
 unfold goFn at hf;split at hf;rename_i fn hfn;simp only [Bool.and_eq_true,Bool.not_eq_true'] at hf;obtain ⟨h1,h2⟩:=hf;have h3:¬ fn.body=none:=by intro hb;rw [hb] at h2;cases h2
 have h4:¬ fn.name = "runtime.NumGoroutine" := by simpa using h1
 simp [callFunc,hfn,h4,h3];cases hf
theorem Yl{c:Prop}{x:Operand}{f:FuncId}{fs cs:Array Value}{xs:List Operand}{vs:List Value}{ats:Array TypeId}{args:Array Value}(hf:goFn P f=true)(h:Ev n σ c x (.func (.func f) fs cs))(hx:Qga n σ c xs vs)
 (ha:fs++vs.toArray++cs=args):RunC P n σ c w (.call { callee:=.value x,args:=xs.toArray,argTypes:=ats }) ty f args:=fun d pos after g a hk hc=>by
 have h1:=hx a hk hc;have h2:xs.toArray.map a.eval=vs.toArray:=by rw [List.map_toArray,h1]
 simp only [execOp,resolve,h a hk hc,h2,Deferred.ofValue,Sem.run_bind,Sem.run_pure,Result.andThen_ok,invoke,ha];exact Vsf hf args w
def onesB(l:List Value):Bool:=l.all (·.oneCell')
theorem Jze{l:List Value}(h:onesB l=true):∀ u∈l,u.oneCell'=true:=fun u hu=>List.all_eq_true.1 h u hu
/-! stores -/
theorem Yne{b o:Nat}{e:TypeId}{l:List Value}{v:Value}(hB:Blk w b e l)(ho:o<l.length)(hv:v.oneCell'=true) :
 (store ⟨b,o,none⟩ v).run P w = .ok () (w.setCell ⟨b,o,none⟩ v)∧Blk (w.setCell ⟨b,o,none⟩ v) b e (l.set o v)∧w.grownBy (w.setCell ⟨b,o,none⟩ v) (some b):=by
 have hc:w.cell? ⟨b,o,none⟩=some l[o]:=hB.at_ (List.getElem?_eq_getElem ho);have hfz:w.frozen? ⟨b,o,none⟩=false:=by unfold Blk at hB;simp [World.frozen?,hB]
 refine ⟨?_,?_,⟨rfl,rfl,rfl,by simp,fun k hk hne=>Below.heap_setCell _ _ _ _ (fun he=>hne (by rw [he]))⟩⟩;rw [run_store P w _ v _ hv,hc];simp [hfz];unfold Blk at hB ⊢;simp [World.setCell,Array.getElem?_modify,hB]
theorem Yec{a b c:World}{row:Option Nat}(h:a.grownBy b row)(k:b.grownBy c row):a.grownBy c row :=
 ⟨k.os.trans h.os,k.tape.trans h.tape,k.output.trans h.output,Nat.le_trans h.size k.size,fun i hi hn=>(k.block i (Nat.lt_of_lt_of_le hi h.size) hn).trans (h.block i hi hn)⟩
theorem Xwc{b e:Nat}:∀ (vs:List Value) (o i:Nat) (l:List Value) (w:World),Blk w b e l→o+i+vs.length≤l.length→(∀ u∈vs,u.oneCell'=true)→
  ∃ w',(storeCells ⟨b,o,none⟩ vs i).run P w = .ok () w'∧Blk w' b e (l.take (o+i)++vs++l.drop (o+i+vs.length))∧w.grownBy w' (some b)∧w'.heap.size=w.heap.size
 | [],o,i,l,w,hB,_,_=>⟨w,rfl,by simpa using hB,⟨rfl,rfl,rfl,Nat.le_refl _,fun _ _ _=>rfl⟩,rfl⟩
 | v::vs,o,i,l,w,hB,hl,h1=>by
  simp only [List.length_cons] at hl;obtain ⟨q1,q2,q3⟩:=Yne (P:=P) hB (o:=o+i) (by omega) (h1 v List.mem_cons_self);obtain ⟨w',r1,r2,r3,r4⟩:=Xwc vs o (i+1) (l.set (o+i) v) _ q2 (by simp;omega) (fun u hu=>h1 u (List.mem_cons_of_mem _ hu));refine ⟨w',?_,?_,Yec q3 r3,by rw [r4];simp⟩;simp only [storeCells,Sem.run_bind,Addr.add_lit,q1,Result.andThen_ok];exact r1;have hlt:o+i<l.length:=by omega
  have e1:(l.set (o+i) v).take (o+(i+1))=l.take (o+i)++[v]:=by
   rw [show o+(i+1)=(o+i)+1 by omega,List.take_add_one,List.take_set_of_le (Nat.le_refl _)];simp [hlt]
  have e2:(l.set (o+i) v).drop (o+(i+1)+vs.length)=l.drop (o+i+(v::vs).length):=by
   rw [List.drop_set_of_lt (by omega)];congr 1;simp;omega
  rw [e1,e2] at r2;simpa [List.append_assoc] using r2
theorem Xi{t:TypeId}{x y:Operand}{b o z:Nat}{e:TypeId}{u:Value}{l vs:List Value}(hb:Nat.beq (clOf cl k) 2=true)(hs:tySize P t=some z)(hx:Ev n σ True x (.pointer (some ⟨b,o,none⟩)))(hy:Ev n σ True y u)
 (hu:u.cells=vs.toArray) (hz:vs.length=z) (hB:Blk w b e l) (hfit:Nat.ble (o+vs.length) l.length=true) (h1:onesB vs=true)
 (h:∀ w1,w.grownBy w1 (some b)→w1.heap.size=w.heap.size→Blk w1 b e (l.take o++vs++l.drop (o+vs.length))→SR P Z ops cl lv W0 n K (k+1) rest σ w1) :
 SR P Z ops cl lv W0 n K k (⟨none,.store t x y,ty,pos,after,none⟩::rest) σ w:=by
 obtain ⟨w1,r1,r2,r3,r4⟩:=Xwc (P:=P) vs o 0 l w hB (by have:=Nat.le_of_ble_eq_true hfit;omega) (Jze h1);refine Jye hb (w':=w1) (fun d pos after g a ha _=>?_) (h w1 r3 r4 (by simpa using r2));unfold tySize at hs;obtain ⟨i,hi,hi2⟩:=Option.map_eq_some_iff.1 hs;have hsz:(sizeOf t).run P w = .ok vs.length w:=by simp [sizeOf,typeInfo,hi,hi2,hz]
 simp [execOp,hx a ha trivial,hy a ha trivial,Instr.storeAt,Instr.sureAddr,storeVar,hsz,hu,r1]
theorem Vd{t:TypeId}{x y:Operand}{b z:Nat}{e:TypeId}{u:Value}{l vs:List Value}(hb:Nat.beq (clOf cl k) 2=true)(hs:tySize P t=some z)(hx:Ev n σ True x (.pointer (some ⟨b,0,none⟩)))(hy:Ev n σ True y u)
 (hu:u.cells=vs.toArray) (hz:vs.length=z) (hB:Blk w b e l) (hfit:Nat.beq vs.length l.length=true) (h1:onesB vs=true)
 (h:∀ w1,w.grownBy w1 (some b)→w1.heap.size=w.heap.size→Blk w1 b e vs→SR P Z ops cl lv W0 n K (k+1) rest σ w1) :
 SR P Z ops cl lv W0 n K k (⟨none,.store t x y,ty,pos,after,none⟩::rest) σ w:=by
 have hf:=Nat.eq_of_beq_eq_true hfit;refine Xi hb hs hx hy hu hz hB (by rw [Nat.zero_add,hf];exact Nat.ble_self_eq_true _) h1 fun w1 h2 h3 h4=>h w1 h2 h3 ?_;rw [Nat.zero_add,hf,List.drop_length,List.take_zero,List.nil_append,List.append_nil] at h4;exact h4
theorem Ym{t:TypeId}{x y:Operand}{b o:Nat}{e:TypeId}{u v:Value}{l:List Value}(hb:Nat.beq (clOf cl k) 2=true)(hs:tySize P t=some 1)(hx:Ev n σ True x (.pointer (some ⟨b,o,none⟩)))(hy:Ev n σ True y u)
 (hu:u.cells = #[v]) (hB:Blk w b e l) (hfit:Nat.blt o l.length=true) (h1:v.oneCell'=true)
 (h:∀ w1,w.grownBy w1 (some b)→w1.heap.size=w.heap.size→Blk w1 b e (l.set o v)→SR P Z ops cl lv W0 n K (k+1) rest σ w1) :
 SR P Z ops cl lv W0 n K k (⟨none,.store t x y,ty,pos,after,none⟩::rest) σ w:=by
 have hf:o<l.length:=Nat.le_of_ble_eq_true hfit;refine Xi (vs:=[v]) hb hs hx hy hu rfl hB (Nat.ble_eq▸hf) (by simp [onesB,h1]) fun w1 h2 h3 h4=>h w1 h2 h3 ?_
 have e1:l.set o v=l.take o++[v]++l.drop (o+[v].length):=by
  rw [List.set_eq_take_append_cons_drop,if_pos hf];simp
 rw [e1];exact h4
theorem Jc{t e z by_ base m q q':Nat}{x y:Operand}{s zv:Value}{xs news:List Value}{b' o':Nat}(hb:(Nat.beq (clOf cl k) 2&&Nat.blt d n)=true)(ht:tyElem P t=some (e,z,by_))(hzv:zeroOf P e=some zv)
 (hzs:zv.cells.size=z) (hz0:0<z) (hx:Ev n σ True x s) (hown:w.ownsRow base e z s m xs) (hy:Ev n σ True y (.slice (some ⟨b',o',none⟩) q q')) (hl:news.length=q*z) (hn:RowAt w b' o' news) (h1:onesB news=true)
 (h63:m+q≤maxLen) (hby:(m+q)*by_≤140737488355328) (hbase:base≤w.heap.size)
 (h:∀ a' c' w',w'.ownsRow base e z (.slice a' (m+q) c') (m+q) (xs++news)→w.grownBy w' s.ownBlock→((Value.slice a' (m+q) c').ownBlock=s.ownBlock∨(Value.slice a' (m+q) c').ownBlock=some w.heap.size)→SR P Z ops cl lv W0 n K (k+1) rest ((d,True,.slice a' (m+q) c') :: σ) w') :
 SR P Z ops cl lv W0 n K k (⟨some d,.call { callee:=.builtin .append,args:=#[x,y],argTypes:=#[t,t] },ty,pos,after,none⟩::rest) σ w:=by
 obtain ⟨hu,i,hi,hsz,hbyi⟩:=Uy ht;obtain ⟨i',hi',hz'⟩:=Wxa hzv;obtain rfl:i=i':=Option.some.inj (hi.symm.trans hi');simp only [Bool.and_eq_true] at hb;have hc:=Nat.eq_of_beq_eq_true hb.1;obtain ⟨s',w',r1,r2,r3,_,r5⟩:=run_append_own_at (P:=P) w base t ty e i zv z by_ hu hi hz' hsz hbyi hzs hz0 s m xs hown ⟨b',o',none⟩ q q' news hl (fun j u hj=>by rw [Addr.add_lit];exact hn j u hj) (Jze h1) h63 hby hbase
 obtain ⟨a',c',hs'⟩:∃ a' c',s' = .slice a' (m+q) c':=by
  rcases r2.2 with ⟨q1,q2⟩|⟨g,cap,cur,q1,_⟩;exact ⟨none,0,by rw [q1,q2]⟩;exact ⟨_,cap,q1⟩
 subst hs';refine Zzb (w':=w') (by rw [hc,hb.2];rfl) (fun d pos after g a ha _=>?_) (fun hh=>by omega) (h a' c' w' r2 r3 r5);simp only [execOp,resolve,invoke,builtin,Sem.run_bind,Sem.run_pure,Result.andThen_ok,List.map_toArray,List.map_cons,List.map_nil,hx a ha trivial,hy a ha trivial,r1]
end
/-! ## Code -/
def Qof(N:Act→World→Prop)(X:List (Nat×(Act→World→Prop)))(T:Act→World→Prop):Exit→Act→World→Prop
 | .normal,a,w=>N a w
 | .ret,a,w=>T a w
 | .exit id,a,w=>match X.lookup id with|some k=>k a w|none=>False
 | _,_,_=>False
structure SC (P:Program) (n:Nat) (c:Code) (N:Act→World→Prop) (X:List (Nat×(Act→World→Prop))) (T:Act→World→Prop) (σ:List Ent) (w:World):Prop where mk ::
  h:∀ a,Kn n σ a→c.wp P (Qof N X T) a w
section
variable {P:Program} {n:Nat} {N T:Act→World→Prop} {X:List (Nat×(Act→World→Prop))} {σ:List Ent} {w:World}
instance {c:Code}:CoeFun (SC P n c N X T σ w) fun _=>∀ a,Kn n σ a→c.wp P (Qof N X T) a w:=⟨SC.h⟩
theorem Zqa{c:Code}(τ:List Ent)(hs:Sub τ σ)(h:SC P n c N X T τ w):SC P n c N X T σ w:=.mk fun a ha=>h a (ha.sub hs)
theorem Ws{x y:Code}(h:∀ K:Act→World→Prop,(∀ τ u,SC P n y N X T τ u→∀ a,Kn n τ a→K a u)→SC P n x K X T σ w):SC P n (.seq x y) N X T σ w:=.mk fun a ha=>by
 refine wp_seq (Code.wp_mono (fun e a w q=>?_) (h (fun a w=>y.wp P (Qof N X T) a w) (fun τ u hy a ha=>hy a ha) a ha));cases e <;> exact q
theorem Ya(h:∀ a,Kn n σ a→N a w):SC P n .skip N X T σ w:=.mk fun a ha=>wp_skip (h a ha)
theorem Xd(h:∀ a,Kn n σ a→T a w):SC P n .ret N X T σ w:=.mk fun a ha=>wp_ret (h a ha)
theorem Qs{id:Nat}{k:Act→World→Prop}(hk:X.lookup id=some k)(h:∀ a,Kn n σ a→k a w):SC P n (.exit id) N X T σ w:=.mk fun a ha=>wp_exit (by
 show match X.lookup id with|some k=>k a w|none=>False
 rw [hk];exact h a ha)
theorem Yv{id:Nat}{c:Code}(h:SC P n c N ((id,N)::X) T σ w):SC P n (.block id c) N X T σ w:=.mk fun a ha=>by
 refine wp_block (Code.wp_mono (fun e a w q=>?_) (h a ha))
 cases e with
 | exit id' =>
  simp only [Exit.inBlock];by_cases he:id'=id;subst he;rw [if_pos rfl];simpa [Qof,List.lookup] using q;rw [if_neg he];simp only [Qof] at q ⊢;rw [List.lookup_cons] at q;have:(id' == id)=false:=by simpa using he
  rw [this] at q;exact q
 | _=>exact q
theorem Yta{x:Operand}{b:Bool}{p q:Code}(hx:Ev n σ True x (.bool b))(h1:b=true→SC P n p N X T σ w)(h2:b=false→SC P n q N X T σ w):SC P n (.cond x p q) N X T σ w:=.mk fun a ha =>
 wp_cond_split (hx a ha trivial) (fun h=>h1 h a ha) (fun h=>h2 h a ha)
theorem Vxd{t:Nat}{g:Bool}{y:Code}{b0:Bool}(τ:List Ent)(hs:Sub ((t,True,.bool g) :: τ) σ)(hx:look σ t=some (True,.bool g))
 (hy:g=false→SC P n y (fun a w'=>Kn n ((t,True,.bool b0) :: τ) a∧w'=w) X T σ w) (hN:∀ a,Kn n ((t,True,.bool (g || b0)) :: τ) a→N a w) :
 SC P n (.cond (.tmp t) .skip y) N X T σ w:=by
 refine Yta (Zc hx) (fun hg=>?_) (fun hg=>?_);subst hg;exact Ya fun a ha=>hN a (by simpa using ha.sub hs);refine .mk fun a ha=>?_;refine Code.wp_mono (fun e a' w' q=>?_) (hy hg a ha)
 cases e with
 | normal=>obtain ⟨q1,rfl⟩:=q;subst hg;exact hN a' (by simpa using q1)
 | _=>exact q
theorem Wc{id:Nat}{l:List Oper}(cl:List Nat)(h:SR P NoP l cl [] w n N 0 l σ w):SC P n (.region id l.toArray false) N X T σ w:=.mk fun a ha=>by
 have h1:=h (fun j o ho=>by simpa using ho) a ha;have e:lvOf []=fun _=>true:=by funext i;simp [lvOf]
 rw [e] at h1
 have h2:RS P NoP l.toArray (clOf cl) (fun _=>true) w (fun a w=>(Qof N X T) .normal a w) (List.range l.toArray.size) a w:=by
  rw [List.range_eq_range'];simpa [Qof] using h1
 exact Xog h2
theorem Xe{id:Nat}{l:List Oper}(cl:List Nat)(lv:List Bool)(ms:List Nat)(hm:P.follows .mixedOrders=true)(hok:okB l cl lv ms=true)
 (h:SR P NoP l cl lv w.drew n N 0 l σ w.drew):SC P n (.region id l.toArray true) N X T σ w:=.mk fun a ha=>by
 have h1:=h (fun j o ho=>by simpa using ho) a ha
 have h2:RS P NoP l.toArray (clOf cl) (lvOf lv) w.drew (fun a w=>(Qof N X T) .normal a w) (List.range l.toArray.size) a w.drew:=by
  rw [List.range_eq_range'];simpa [Qof] using h1
 exact Xng (Xpg hok) hm h2
theorem Wpa{c:Code}{α:Type}(I:α→World→Prop)(σf:α→List Ent)(μ:α→Nat)(x0:α)(h0:I x0 w)(hs:Sub (σf x0) σ)
 (round:∀ x w,I x w→SC P n c (fun a' w'=>∃ y,Kn n (σf y) a'∧I y w'∧μ y < μ x) X T (σf x) w):SC P n (.loop c) N X T σ w:=.mk fun a ha=>by
 intro b k cs
 have key:∀ m x a w,μ x=m→Kn n (σf x) a→I x w→
   ∃ e a' w',Qof N X T e a' w'∧Arrives P (lone (b.at a (.code c :: .inLoop c::k)) cs w) b k cs e a' w':=by
  intro m
  induction m using Nat.strongRecOn with
  | _ m ih =>
   intro x a w hm hk hI
   obtain ⟨e,a₁,w₁,hq,harr⟩:=round x w hI a hk b (.inLoop c::k) cs
   cases e with
   | normal =>
    obtain ⟨y,hk1,hI1,hlt⟩:=hq
    obtain ⟨e₂,a₂,w₂,hq₂,harr₂⟩:=ih (μ y) (hm▸hlt) y a₁ w₁ rfl hk1 hI1
    exact ⟨e₂,a₂,w₂,hq₂,.of_steps (Steps.trans harr (.one step_inLoop)) harr₂⟩
   | exit id=>exact ⟨.exit id,a₁,w₁,hq,.pass (x:=.inLoop c) rfl (fun _ _=>.inl (by simp)) harr⟩
   | goto l=>exact hq.elim
   | ret=>exact ⟨.ret,a₁,w₁,hq,.pass (x:=.inLoop c) rfl (fun _ _=>.inl (by simp)) harr⟩
   | panic ch=>exact hq.elim
   | outgrown=>exact hq.elim
 obtain ⟨e,a',w',hq,harr⟩:=key _ x0 a w rfl (ha.sub hs) h0;exact ⟨e,a',w',hq,.of_steps (.one step_loop) harr⟩
theorem Zfa{c:Code}{α:Type}(I:α→World→Prop)(σc:List Ent)(σf:α→List Ent)(μ:α→Nat)(x0:α)(h0:I x0 w)(hs:Sub (σf x0 ++ σc) σ)
  (round:∀ x w,I x w→SC P n c (fun a' w'=>∃ y,Kn n (σf y ++ σc) a'∧I y w'∧μ y < μ x) X T (σf x ++ σc) w):SC P n (.loop c) N X T σ w :=
 Wpa I (fun x=>σf x ++ σc) μ x0 h0 hs round
/-! ends of a function -/
theorem Uje{fn:Func}{R:Value→World→Prop}(hr:fn.results = #[])(h:R (.tuple #[]) w):∀ a,Kn n σ a→bodyPost P fn (fun e w'=>∃ v,e = .returned v∧R v w') .ret a w:=fun a ha =>
 bodyPost_ret (results_none hr _ _ _) ha.2.1 ⟨_,rfl,h⟩
theorem Qj{fn:Func}{R:Value→World→Prop}(hr:fn.results = #[])(h:R (.tuple #[]) w):∀ a,Kn n σ a→bodyPost P fn (fun e w'=>∃ v,e = .returned v∧R v w') .normal a w:=fun a ha =>
 bodyPost_end (results_none hr _ _ _) ha.2.1 ⟨_,rfl,h⟩
theorem Vy{fn:Func}{R:Value→World→Prop}{t:Nat}{v:Value}(hr:fn.results = #[.tmp t])(hl:look σ t=some (True,v))(h:R v w):∀ a,Kn n σ a→bodyPost P fn (fun e w'=>∃ v,e = .returned v∧R v w') .ret a w:=fun a ha =>
 bodyPost_ret (results_tmp hr _ _ _) ha.2.1 ⟨_,rfl,by have:=ha.at_ hl trivial;simp [this];exact h⟩
def resOf(us:List Value):Value:=if h:us.toArray.size=1 then us.toArray[0] else .tuple us.toArray
theorem Xzb{fn:Func}{R:Value→World→Prop}{ts:List Nat}{vs:List Value}(hr:fn.results=(ts.map ResultVar.tmp).toArray)(h2:Nat.beq ts.length 1=false)(hl:ts.map (look σ)=vs.map (fun v=>some (True,v)))(h:R (.tuple vs.toArray) w) :
 ∀ a,Kn n σ a→bodyPost P fn (fun e w'=>∃ v,e = .returned v∧R v w') .ret a w:=fun a ha=>by
 refine bodyPost_ret (v:=.tuple vs.toArray) ?_ ha.2.1 ⟨_,rfl,h⟩
 have hvs:∀ (ts:List Nat) (vs:List Value),ts.map (look σ)=vs.map (fun v=>some (True,v))→ts.map (fun t=>a.tmps.getD t undef)=vs:=by
  intro ts
  induction ts with
  | nil=>intro vs h;cases vs with
   | nil=>rfl
   | cons=>simp at h
  | cons t ts ih =>
   intro vs h
   cases vs with
   | nil=>simp at h
   | cons v vs =>
    simp only [List.map_cons,List.cons.injEq] at h;have:=ha.at_ h.1 trivial;rw [List.map_cons,ih vs h.2];simp [this]
 have hrun:∀ (ts:List Nat),(ts.mapM (fun t=>(pure (a.tmps.getD t undef):Sem Value))).run P w = .ok (ts.map fun t=>a.tmps.getD t undef) w:=by
  intro ts
  induction ts with
  | nil=>rfl
  | cons t ts ih =>
   rw [List.mapM_cons];simp only [Sem.run_bind,Sem.run_pure,Result.andThen_ok] at ih ⊢;rw [ih];rfl
 have hres:(results fn a.tmps).run P w = .ok (resOf (ts.map fun t=>a.tmps.getD t undef)) w:=by
  unfold results;rw [hr,Array.mapM_eq_mapM_toList];simp only [Sem.run_bind,Sem.run_map,List.mapM_map];have:=hrun ts;simp only [Function.comp_def];rw [this];rfl
 rw [hres,hvs ts vs hl];have hlen:vs.length=ts.length:=by have:=congrArg List.length hl;simpa using this.symm
 unfold resOf;rw [dif_neg (by simp only [List.size_toArray,hlen];intro he;rw [he] at h2;simp at h2)]
def argsK:Nat→List Value→List Ent
 | _,[]=>[]
 | k,v::vs=>(k,True,v)::argsK (k+1) vs
theorem Zpd:∀ (vs:List Value) (k t:Nat) (c:Prop) (v:Value),look (argsK k vs) t=some (c,v)→c=True∧k≤t∧vs[t-k]? = some v
 | [],_,_,_,_,h=>by simp [argsK,look] at h
 | u::vs,k,t,c,v,h=>by
  unfold argsK look at h
  cases hq:Nat.beq k t with
  | true =>
   rw [hq] at h;obtain rfl:=Nat.eq_of_beq_eq_true hq;simp only [cond_true] at h;injection h with h;injection h with e1 e2;subst e2;exact ⟨e1.symm,Nat.le_refl _,by simp⟩
  | false =>
   rw [hq] at h;obtain ⟨h1,h2,h3⟩:=Zpd vs (k+1) t c v h;refine ⟨h1,by omega,?_⟩;rw [show t-k=(t-(k+1))+1 by omega];simpa using h3
theorem Jx{f:FuncId}{fn:Func}{c:Code}{args:List Value}{R:Value→World→Prop}{m:Nat}(hf:P.funcs[f]? = some fn)(hb:fn.body=some c)(hm:args.length+(fn.ntmps-args.length)=m)
 (σ0:List Ent) (hs:Sub σ0 (argsK 0 args))
 (hh:SC P m c (fun a w=>bodyPost P fn (fun e w'=>∃ v,e = .returned v∧R v w') .normal a w) [] (fun a w=>bodyPost P fn (fun e w'=>∃ v,e = .returned v∧R v w') .ret a w)
 σ0 w):Ret P f args.toArray w R:=by
 unfold Ret;refine calls_of_wp hf hb (Code.wp_mono (fun e a w q=>?_) (hh _ (Kn.sub (σ:=argsK 0 args) ?_ hs)))
 cases e with
 | normal=>exact q
 | ret=>exact q
 | _=>exact q.elim
 refine ⟨by simp [← hm],rfl,fun t c' v hl=>?_⟩;obtain ⟨rfl,_,h3⟩:=Zpd args 0 t c' v hl;refine ⟨fun _=>?_,fun hn=>absurd trivial hn⟩;rw [Nat.sub_zero] at h3;have hlt:t<args.length:=(List.getElem?_eq_some_iff.1 h3).1;simp [Array.getElem?_append,hlt,h3];simpa [hlt] using h3
end
section
variable {w w':World} {base:Nat} {e:TypeId} {z:Nat} {v:Value} {m:Nat} {xs:List Value}
theorem Vja(h:w.ownsRow base e z v m xs):∃ a c,v = .slice a m c∧m≤c:=by
 rcases h.2 with ⟨h1,h2⟩|⟨g,cap,cur,h1,_,_,h4,_⟩;subst h2;exact ⟨none,0,h1,Nat.le_refl _⟩;exact ⟨_,cap,h1,h4⟩
theorem Jdg(h:w.ownsRow base e z v m xs){b o c:Nat}{k:Nat}(hv:v = .slice (some ⟨b,o,none⟩) k c):RowAt w b o xs∧o=0∧base≤b:=by
 rcases h.2 with ⟨h1,h2⟩|⟨g,cap,cur,h1,h2,h3,h4,h5,h6,h7⟩;rw [h1] at hv;injection hv with hv;cases hv;rw [h1] at hv;injection hv with hv _ _;injection hv with hv;injection hv with e1 e2 _;subst e1;subst e2;refine ⟨fun j u hj=>?_,rfl,h2⟩;have:=h.cells (g:=g) (by rw [h1];rfl) j u hj;rwa [Addr.add_lit] at this
theorem Uta(h:w.ownsRow base e z v m xs)(hm:0<m):∃ b c,v = .slice (some ⟨b,0,none⟩) m c∧m≤c∧RowAt w b 0 xs∧base≤b:=by
 rcases h.2 with ⟨_,h2⟩|⟨g,cap,cur,h1,h2,h3,h4,h5,h6,h7⟩;omega;obtain ⟨q1,_,q3⟩:=Jdg h h1;exact ⟨g,cap,h1,h4,q1,q3⟩
theorem Xw{row:Option Nat}(h:w.ownsRow base e z v m xs)(hg:w.grownBy w' row)(hne:v.ownBlock=none∨v.ownBlock≠row):w'.ownsRow base e z v m xs:=h.kept hg hne
theorem Xz(h:w.ownsRow base e z v m xs)(hg:G w w'):w'.ownsRow base e z v m xs:=h.kept (hg.only none) (by cases hv:v.ownBlock <;> simp)
theorem Yoe(h:w.ownsRow base e z v m xs):w.drew.ownsRow base e z v m xs:=h
theorem Vtf{base':Nat}(h:w.ownsRow base e z v m xs)(hb:base'≤base):w.ownsRow base' e z v m xs:=by
 refine ⟨h.1,?_⟩;rcases h.2 with h1|⟨g,cap,cur,h1,h2,h3⟩;exact .inl h1;exact .inr ⟨g,cap,cur,h1,by omega,h3⟩
theorem Zga(w:World)(base:Nat)(e:TypeId)(z:Nat):w.ownsRow base e z (.slice none 0 0) 0 []:=World.ownsRow_nil w base e z
theorem Xwa(h:G w w')(hb:base≤w.heap.size):Below base w w':=Below.mono h hb
theorem Zaa{a:World}{row:Option Nat}(h:Below base a w)(hg:w.grownBy w' row)(hb:base≤w.heap.size)(hr:∀ k,row=some k→base≤k):Below base a w':=h.grown hg hb hr
theorem Jh{a:World}{row:Option Nat}(h:G a w)(hg:w.grownBy w' row)(hr:∀ k,row=some k→a.heap.size≤k):G a w':=Below.grown h hg h.size hr
theorem Uke(h:w.ownsRow base e z v m xs){b:Nat}(hb:w.heap.size≤b):v.ownBlock≠some b:=fun hv=>by
 have:=(h.lt b hv).2;omega
end
section
variable {P:Program} {n:Nat} {σ:List Ent} {c:Prop} {wb:World} {ty:TypeId} {v:Value}
/-! structs of plain cells, compared -/
def Vka(P:Program)(t:TypeId):Option Nat:=match P.underlying t with
 | some (.int _)=>some 0
 | some .string=>some 1
 | some .bool=>some 2
 | _=>none
def Umb(P:Program):Nat→List Field→Option (List Nat)
 | _,[]=>some []
 | k,f::fs=>if Nat.beq f.offset k&&f.name != "_" then match Vka P f.type,Umb P (k+1) fs with
   | some a,some l=>some (a::l)
   | _,_=>none
  else none
def Xfa(P:Program)(t:TypeId):Option (List Nat):=match P.underlying t with
 | some (.struct fs)=>if P.stoodInHeld t=false∧P.eqGuardType P.depth t=false then Umb P 0 fs.toList else none
 | _=>none
def eqL:List Nat→List Value→List Value→Option Bool
 | [],[],[]=>some true
 | 0::ks,.int k a::l,.int k' b::l'=>if k=k' then match eqL ks l l' with|some r=>some (decide (a=b)&&r)|none=>none else none
 | 1::ks,.string a::l,.string b::l'=>match eqL ks l l' with|some r=>some (decide (a.data.toList=b.data.toList)&&r)|none=>none
 | 2::ks,.bool a::l,.bool b::l'=>match eqL ks l l' with|some r=>some (a == b&&r)|none=>none
 | _,_,_=>none
theorem Jka{t:TypeId}(ht:Qr P t=true){cs:Array Value}{o:Nat}{v:Value}(hv:cs[o]? = some v)(w:World):(part t cs o).run P w = .ok v w:=by
 have:(isAgg t).run P w = .ok false w:=by
  unfold Qr at ht;split at ht <;> try (cases ht;done)
  rename_i d hd1 hd2 hd;simp only [isAgg,Sem.run_bind,run_underlying hd,Result.andThen_ok];cases d <;> simp_all
 simp [part,this,hv]
theorem Xxc{t:TypeId}{k:Nat}(h:Vka P t=some k):Qr P t=true:=by
 unfold Vka at h;unfold Qr;split at h <;> simp_all
theorem eqL_0{u u':Value}{b:Bool}(he:eqL [0] [u] [u']=some b):∃ k a a',u = .int k a∧u' = .int k a'∧b=decide (a=a'):=by
 unfold eqL at he;split at he;rename_i h1 _ _;cases h1;rename_i h1 h2 h3;injection h2 with h2 h2';injection h3 with h3 h3';injection h1 with h0 h1';subst h2' h3' h2 h3 h1';split at he;rename_i hk;subst hk;simp [eqL] at he;exact ⟨_,_,_,rfl,rfl,he.symm⟩;cases he;rename_i h1 _ _;cases h1;rename_i h1 _ _;cases h1;cases he
theorem eqL_1{u u':Value}{b:Bool}(he:eqL [1] [u] [u']=some b):∃ a a',u = .string a∧u' = .string a'∧b=decide (a.data.toList=a'.data.toList):=by
 unfold eqL at he;split at he;rename_i h1 _ _;cases h1;rename_i h1 _ _;cases h1;rename_i h1 h2 h3;injection h2 with h2 h2';injection h3 with h3 h3';injection h1 with h0 h1';subst h2' h3' h2 h3 h1';simp only [eqL,Bool.and_true,Option.some.injEq] at he;exact ⟨_,_,rfl,rfl,he.symm⟩;rename_i h1 _ _;cases h1;cases he
theorem eqL_2{u u':Value}{b:Bool}(he:eqL [2] [u] [u']=some b):∃ a a',u = .bool a∧u' = .bool a'∧b=(a == a'):=by
 unfold eqL at he;split at he;rename_i h1 _ _;cases h1;rename_i h1 _ _;cases h1;rename_i h1 _ _;cases h1;rename_i h1 h2 h3;injection h2 with h2 h2';injection h3 with h3 h3';injection h1 with h0 h1';subst h2' h3' h2 h3 h1';simp only [eqL,Bool.and_true,Option.some.injEq] at he;exact ⟨_,_,rfl,rfl,he.symm⟩;cases he
theorem Vyd{t:TypeId}{k d:Nat}(h:Vka P t=some k){u u':Value}{b:Bool}(he:eqL [k] [u] [u']=some b)(w:World):(Op.equalIn (d+1) t u u').run P w = .ok b w:=by
 unfold Vka at h;split at h <;> try (cases h;done)
 ·rename_i k0 hu
  injection h with h;subst h;obtain ⟨k,a,a',rfl,rfl,rfl⟩:=eqL_0 he;rw [run_equalIn_int w d t _ k0 _ _ hu];congr 1
 ·rename_i hu
  injection h with h;subst h;obtain ⟨a,a',rfl,rfl,rfl⟩:=eqL_1 he;rw [run_equalIn_string w d t _ _ hu];congr 1;rw [ByteArray.toList_eq,ByteArray.toList_eq];rw [Bool.eq_iff_iff];simp
 ·rename_i hu
  injection h with h;subst h;obtain ⟨a,a',rfl,rfl,rfl⟩:=eqL_2 he;rw [run_equalIn_bool' w d t _ _ hu]
theorem Ype{k:Nat}{ks:List Nat}{l l':List Value}{b:Bool}(h:eqL (k::ks) l l'=some b):∃ u u' r r' b1 b2,l=u::r∧l'=u'::r'∧eqL [k] [u] [u']=some b1∧eqL ks r r'=some b2∧b=(b1&&b2):=by
 unfold eqL at h;split at h;rename_i h1;cases h1;rename_i h1;injection h1 with h1 h1';subst h1 h1';split at h;rename_i hk;subst hk;split at h;rename_i r hr;injection h with h;exact ⟨_,_,_,_,_,r,rfl,rfl,by simp [eqL],hr,h.symm⟩;cases h;cases h;rename_i h1;injection h1 with h1 h1';subst h1 h1';split at h;rename_i r hr;injection h with h;exact ⟨_,_,_,_,_,r,rfl,rfl,by simp [eqL],hr,h.symm⟩;cases h;rename_i h1;injection h1 with h1 h1';subst h1 h1';split at h;rename_i r hr;injection h with h;exact ⟨_,_,_,_,_,r,rfl,rfl,by simp [eqL],hr,h.symm⟩;cases h;cases h
theorem Unb(d:Nat):∀ (fs:List Field) (ks:List Nat) (k:Nat) (l l':List Value) (pre pre':List Value) (b:Bool),Umb P k fs=some ks→pre.length=k→pre'.length=k→eqL ks l l'=some b→
  ∀ w,(Op.eqFields (d+1) (pre++l).toArray (pre'++l').toArray fs).run P w = .ok b w
 | [],ks,k,l,l',pre,pre',b,hf,h1,h2,he,w=>by
  injection hf with hf;subst hf;unfold eqL at he;split at he <;> simp_all [Op.eqFields]
 | f::fs,ks,k,l,l',pre,pre',b,hf,h1,h2,he,w=>by
  unfold Umb at hf;split at hf;rename_i hc;simp only [Bool.and_eq_true,bne_iff_ne,ne_eq] at hc;have hc:=And.intro (Nat.eq_of_beq_eq_true hc.1) hc.2;split at hf;rename_i a ls ha hls;injection hf with hf;subst hf;obtain ⟨u,u',r,r',b1,b2,rfl,rfl,e1,e2,rfl⟩:=Ype he;have ho:=Xxc ha;have g1:(pre++u::r).toArray[f.offset]? = some u:=by simp [hc.1,← h1]
  have g2:(pre'++u'::r').toArray[f.offset]? = some u':=by simp [hc.1,← h2]
  have ih:=Unb d fs ls (k+1) r r' (pre++[u]) (pre'++[u']) b2 hls (by simp [h1]) (by simp [h2]) e2 w;rw [List.append_assoc,List.append_assoc,List.singleton_append,List.singleton_append] at ih;simp only [Op.eqFields,if_pos hc.2,Sem.run_bind,Jka ho g1,Jka ho g2,Result.andThen_ok,Vyd ha e1];cases b1;simp;simpa using ih;cases hf;cases hf
theorem Znb{t u:TypeId}{x y:Operand}{ks:List Nat}{l l':List Value}{b:Bool}(ht:Xfa P t=some ks)(h:Ev n σ c x (.agg l.toArray))(h':Ev n σ c y (.agg l'.toArray))(he:eqL ks l l'=some b):Rd P n σ c wb (.binOp .eql t x y u) ty (.bool b):=.mk fun d pos after gd a ha hc w1 _=>by
 unfold Xfa at ht;split at ht;rename_i fs hfs;split at ht;rename_i hk;have hfo:P.fieldsOf t=fs:=by simp [Program.fieldsOf,hfs]
 have k2:=run_equalIn_struct w1 9999 t l.toArray l'.toArray (by rw [hfo];exact hfs) hk.1;have k3:=Unb 9998 fs.toList ks 0 l l' [] [] b ht rfl rfl he w1;simp only [List.nil_append] at k3;rw [hfo,k3] at k2;simp [execOp,h a ha hc,h' a ha hc,run_eqGuard_agg w1 .eql t x y l.toArray l'.toArray hk.2,run_eql_struct,k2];cases ht;cases ht
theorem Zaf{t u:TypeId}{x y:Operand}{ks:List Nat}{l l':List Value}{b:Bool}(ht:Xfa P t=some ks)(h:Ev n σ c x (.agg l.toArray))(h':Ev n σ c y (.agg l'.toArray))(he:eqL ks l l'=some b):Rd P n σ c wb (.binOp .neq t x y u) ty (.bool (!b)):=.mk fun d pos after gd a ha hc w1 _=>by
 unfold Xfa at ht;split at ht;rename_i fs hfs;split at ht;rename_i hk;have hfo:P.fieldsOf t=fs:=by simp [Program.fieldsOf,hfs]
 have k2:=run_equalIn_struct w1 9999 t l.toArray l'.toArray (by rw [hfo];exact hfs) hk.1;have k3:=Unb 9998 fs.toList ks 0 l l' [] [] b ht rfl rfl he w1;simp only [List.nil_append] at k3;rw [hfo,k3] at k2;simp [execOp,h a ha hc,h' a ha hc,run_eqGuard_agg w1 .neq t x y l.toArray l'.toArray hk.2,run_neq_struct,k2];cases ht;cases ht
/-! an array's element, by value -/
def Qpd(P:Program)(t:TypeId):Option Nat:=match P.underlying t with
 | some (.array m e)=>if Qr P e=true∧tySize P e=some 1 then some m else none
 | _=>none
theorem Zbf{t m:Nat}{x y:Operand}{cs:Array Value}{k:IntKind}{i:Int}{v:Value}(ht:Qpd P t=some m)(h:Ev n σ c x (.agg cs))(h':Ev n σ c y (.int k i))(hi:c→0≤i∧i<m)(hv:c→cs[i.toNat]? = some v) :
 Rd P n σ c wb (.index t x y) ty v:=.mk fun d pos after gd a ha hc w1 _=>by
 obtain ⟨h0,h1⟩:=hi hc;unfold Qpd at ht;split at ht;rename_i m' e hu;split at ht;rename_i hk;injection ht with ht;subst ht;obtain ⟨ho,hz⟩:=hk;unfold tySize at hz
 cases hi2:P.info? e with
 | none=>rw [hi2] at hz;cases hz
 | some inf =>
  rw [hi2] at hz;injection hz with hz
  have hs:(sizeOf e).run P w1 = .ok 1 w1:=by
   have:=hz;simp [sizeOf,typeInfo,run_program,hi2,hz]
  simp [execOp,h a ha hc,h' a ha hc,Instr.index,asIntOf,run_underlying hu,h0,h1,hs,Jka ho (hv hc)]
 cases ht;cases ht
/-! nil -/
def nilV:Value→Bool
 | .nilIface=>true
 | _=>false
theorem Jeg{t u:TypeId}{x:Operand}{e:Value}(ht:P.isIface t=true)(h:Ev n σ c x e)(he:e = .nilIface∨∃ a b,e = .iface a b):Rd P n σ c wb (.binOp .neq t x (.const .nilIface) u) ty (.bool (!nilV e)):=.mk fun d pos after gd a ha hc w1 _=>by
 rcases he with rfl|⟨t1,u1,rfl⟩;simp [execOp,h a ha hc,Xvb,eqGuard,binOp,Op.equal,Op.maxDepth,run_equalIn_nil_nil_at w1 9999 t ht,nilV];simp [execOp,h a ha hc,Xvb,eqGuard,binOp,Op.equal,Op.maxDepth,run_equalIn_iface_nil w1 9999 t ht,nilV]
/-! slices of slices -/
theorem Zqd{e:TypeId}{i:TypeInfo}(hi:P.info? e=some i)(w:World):(sizeOf e).run P w = .ok i.size w:=by simp [sizeOf,typeInfo,run_program,hi]
theorem Yqe{t e z by_:Nat}{x y:Operand}{o:Option Addr}{m q:Nat}{k:IntKind}{j:Int}(ht:tyElem P t=some (e,z,by_))(h:Ev n σ c x (.slice o m q))(h':Ev n σ c y (.int k j))(hi:c→0≤j∧j≤q) :
 Rd P n σ c wb (.slice t x none (some y) none) ty (.slice o j.toNat q):=.mk fun d pos after gd a ha hc w1 _=>by
 obtain ⟨hu,i,hin,hz,_⟩:=Uy ht;have e1:=hi hc;have e2:o.map (fun b=>Addr.add b 0)=o:=by cases o <;> simp [Addr.add]
 simp only [execOp,h a ha hc,h' a ha hc,Instr.sliceAt,Option.map_some,Option.map_none,Sem.run_bind,run_underlying hu,Result.andThen_ok];simp [Instr.slice,run_underlying hu,Instr.sliceBounds,Instr.sliceBound,asIntOf,e1,Zqd hin,e2]
theorem Jwc{f:FuncId}{fs cs:Array Operand}{vs us:List Value}(h:Qga n σ c fs.toList vs)(h':Qga n σ c cs.toList us):Rd P n σ c wb (.makeFunc (.func f) fs cs) ty (.func (.func f) vs.toArray us.toArray):=.mk fun d pos after gd a ha hc w1 _=>by
 have e1:=h a ha hc;have e2:=h' a ha hc;have e3:fs.map a.eval=vs.toArray:=by rw [← e1,← Array.toList_map,Array.toArray_toList]
 have e4:cs.map a.eval=us.toArray:=by rw [← e2,← Array.toList_map,Array.toArray_toList]
 simp [execOp,Instr.makeFunc,e3,e4]
/-! numbers of other sizes -/
def Xyc(P:Program)(t:TypeId):Option IntKind:=match P.underlying t with|some (.int k)=>some k|_=>none
theorem Uob{t:TypeId}{k:IntKind}(h:Xyc P t=some k):P.underlying t=some (.int k):=by
 unfold Xyc at h;split at h;rename_i k' hk;injection h with h;subst h;exact hk;cases h
theorem Qqd{s t:TypeId}{x:Operand}{k k1 k2:IntKind}{i:Int}(hs:Xyc P s=some k1)(ht:Xyc P t=some k2)(h:Ev n σ c x (.int k i)):Rd P n σ c wb (.convert s t x) ty (.int k2 (k2.wrap i)):=.mk fun d pos after gd a ha hc w1 _=>by
 simp [execOp,h a ha hc,convert,run_underlying (Uob hs),run_underlying (Uob ht),Conv.intToInt]
theorem Yre{s t:TypeId}{x:Operand}{k k1 k2:IntKind}{i r:Int}(hs:Xyc P s=some k1)(ht:Xyc P t=some k2)(h:Ev n σ c x (.int k i))(hr:c→k2.wrap i=r):Rd P n σ c wb (.convert s t x) ty (.int k2 r):=.mk fun d pos after gd a ha hc w1 hg=>by
 have:=Qqd (wb:=wb) (ty:=ty) hs ht h d pos after gd a ha hc w1 hg;rw [hr hc] at this;exact this
theorem Zcf{t u:TypeId}{x y:Operand}{k:IntKind}{i j r:Int}(h:Ev n σ c x (.int k i))(h':Ev n σ c y (.int k j))(hr:c→k.wrap (i+j)=r):Rd P n σ c wb (.binOp .add t x y u) ty (.int k r):=.mk fun d pos after gd a ha hc w1 hg=>by
 have:=Xqg (P:=P) (t:=t) (u:=u) (wb:=wb) (ty:=ty) h h' d pos after gd a ha hc w1 hg;rw [hr hc] at this;exact this
theorem Jxc{t u:TypeId}{x y:Operand}{k:IntKind}{i j r:Int}(h:Ev n σ c x (.int k i))(h':Ev n σ c y (.int k j))(hr:c→k.wrap (i-j)=r):Rd P n σ c wb (.binOp .sub t x y u) ty (.int k r):=.mk fun d pos after gd a ha hc w1 hg=>by
 have:=Qnd (P:=P) (t:=t) (u:=u) (wb:=wb) (ty:=ty) h h' d pos after gd a ha hc w1 hg;rw [hr hc] at this;exact this
theorem Zdf{t u:TypeId}{x y:Operand}{k:IntKind}{i j r:Int}(h:Ev n σ c x (.int k i))(h':Ev n σ c y (.int k j))(hr:c→k.wrap (i*j)=r):Rd P n σ c wb (.binOp .mul t x y u) ty (.int k r):=.mk fun d pos after gd a ha hc w1 hg=>by
 have:=Xrg (P:=P) (t:=t) (u:=u) (wb:=wb) (ty:=ty) h h' d pos after gd a ha hc w1 hg;rw [hr hc] at this;exact this
theorem Vuc{x:Int}(h:0≤x∧x≤18446744073709551615):IntKind.u64.wrap x=x:=by
 have:x % 18446744073709551616=x:=Int.emod_eq_of_lt h.1 (by omega);simpa [IntKind.wrap,IntKind.bits,IntKind.signed] using this
theorem Qpg{x:Int}(h:0≤x∧x≤255):IntKind.u8.wrap x=x:=by
 have:x % 256=x:=Int.emod_eq_of_lt h.1 (by omega);simpa [IntKind.wrap,IntKind.bits,IntKind.signed] using this
/-! results that lie in cells -/
def rdRes(tmps:Array Value):ResultVar→Sem Value
 | .tmp t=>pure (tmps.getD t undef)
 | .cell a t=>do loadVar t (← asAddr (tmps.getD a undef))
def EvR(P:Program)(n:Nat)(σ:List Ent)(w:World)(rs:List ResultVar)(vs:List Value):Prop:=∀ a,Kn n σ a→(rs.mapM (rdRes a.tmps)).run P w = .ok vs w
theorem Wz{w:World}:EvR P n σ w [] []:=fun _ _=>rfl
theorem Zrd{w:World}{r:ResultVar}{rs:List ResultVar}{vs:List Value}(h:∀ a,Kn n σ a→(rdRes a.tmps r).run P w = .ok v w)(k:EvR P n σ w rs vs):EvR P n σ w (r::rs) (v::vs):=fun a ha=>by
 have h1:=h a ha;have h2:=k a ha;rw [List.mapM_cons];simp only [Sem.run_bind,Sem.run_pure,h1,h2,Result.andThen_ok]
theorem Qh{w:World}{t:Nat}{rs:List ResultVar}{vs:List Value}(h:look σ t=some (True,v))(k:EvR P n σ w rs vs):EvR P n σ w (.tmp t::rs) (v::vs):=Zrd (fun a ha=>by
 have:=ha.at_ h trivial;simp [rdRes,this]) k
theorem Jd{w:World}{t b o z:Nat}{T:TypeId}{l:List Value}{rs:List ResultVar}{vs:List Value}(h:look σ t=some (True,.pointer (some ⟨b,o,none⟩)))(ht:Xma P T=some z)(hl:l.length=z)(hc:RowAt w b o l)(k:EvR P n σ w rs vs):EvR P n σ w (.cell t T::rs) (.agg l.toArray::vs):=Zrd (fun a ha=>by
 have:=ha.at_ h trivial;have h2:=Uvc ht hl hc;simp [rdRes,this,asAddr,h2]) k
theorem Jfg{w:World}{t b o:Nat}{T:TypeId}{rs:List ResultVar}{vs:List Value}(h:look σ t=some (True,.pointer (some ⟨b,o,none⟩)))(ht:Qr P T=true)(hc:w.cell? ⟨b,o,none⟩=some v)(k:EvR P n σ w rs vs):EvR P n σ w (.cell t T::rs) (v::vs):=Zrd (fun a ha=>by
 have:=ha.at_ h trivial;have h2:=Uuc ht hc;simp [rdRes,this,asAddr,h2]) k
theorem Uq{fn:Func}{R:Value→World→Prop}{w:World}{rs:List ResultVar}{vs:List Value}(hr:fn.results=rs.toArray)(h2:Nat.beq rs.length 1=false)(hl:EvR P n σ w rs vs)(hlen:vs.length=rs.length)(h:R (.tuple vs.toArray) w) :
 ∀ a,Kn n σ a→bodyPost P fn (fun e w'=>∃ v,e = .returned v∧R v w') .ret a w:=fun a ha=>by
 refine bodyPost_ret (v:=.tuple vs.toArray) ?_ ha.2.1 ⟨_,rfl,h⟩;have h1:=hl a ha
 have hres:results fn a.tmps=(do let vs ← fn.results.mapM (rdRes a.tmps);pure (if h:vs.size=1 then vs[0] else .tuple vs)):=by
  unfold results;congr 1
 rw [hres,hr,Array.mapM_eq_mapM_toList];simp only [Sem.run_bind,Sem.run_map,h1,Result.andThen_ok];have hn:vs.length≠1:=by rw [hlen];intro he;rw [he] at h2;cases h2
 simp [hn]
theorem Qrd{fn:Func}{R:Value→World→Prop}{w:World}{r:ResultVar}(hr:fn.results = #[r])(hl:EvR P n σ w [r] [v])(h:R v w) :
 ∀ a,Kn n σ a→bodyPost P fn (fun e w'=>∃ v,e = .returned v∧R v w') .ret a w:=fun a ha=>by
 refine bodyPost_ret (v:=v) ?_ ha.2.1 ⟨_,rfl,h⟩;have h1:=hl a ha
 have hres:results fn a.tmps=(do let vs ← fn.results.mapM (rdRes a.tmps);pure (if h:vs.size=1 then vs[0] else .tuple vs)):=by
  unfold results;congr 1
 rw [hres,hr,Array.mapM_eq_mapM_toList];simp only [Sem.run_bind,Sem.run_map,h1,Result.andThen_ok];simp
end
structure RelX where
  r:World→World→Prop
  refl:∀ w,r w w
  trans:∀ {a b c:World},r a b→r b c→r a c
@[reducible] def rowR(row:Option Nat):RelX:=⟨fun w w'=>w.grownBy w' row,fun w=>(G.refl w).only row,fun h k=>Yec h k⟩
abbrev GX(row:RelX)(w w':World):Prop:=row.r w w'
theorem GX.refl(row:RelX)(w:World):GX row w w:=row.refl w
def EffQ(P:Program)(Z:List PanicEntry→Act→World→Prop)(row:RelX)(gr:Bool)(o:Oper)(a:Act)(w:World)(next:Act→World→Prop):Prop :=
 (∃ v w',(execOp a.eval o).run P w = .ok (.value v) w'∧(gr=true→GX row w w')∧next (a.put o.dst v) w')∨
 (∃ w',(execOp a.eval o).run P w = .ok .skip w'∧(gr=true→GX row w w')∧next (a.put o.dst undef) w')∨
 (∃ f args,(execOp a.eval o).run P w = .ok (.enter f args) w∧Calls P f args w fun e w'=>(∃ v,e = .returned v∧(gr=true→GX row w w')∧next (a.put o.dst v) w')∨(∃ ch,e = .panicked ch∧Z ch a w'))∨
 (∃ l f tmps asg body,(execOp a.eval o).run P w = .ok (.round l f tmps asg body) w∧RoundIn Fence.wide 0 P l f tmps asg body w fun e w'=>∃ v,e = .returned v∧(gr=true→GX row w w')∧next (a.put o.dst v) w')
theorem EffQ.wpIn{P:Program}{Z:List PanicEntry→Act→World→Prop}{row:RelX}{gr:Bool}{o:Oper}{a:Act}{w:World}{next:Act→World→Prop}{Q:Exit→Act→World→Prop}{ρ:Option Nat}
 (h:EffQ P Z row gr o a w next) (hZ:∀ ch w',Z ch a w'→Q (.panic ch) a w'):o.wpIn (WF ρ) 0 P a w next Q:=by
 refine Eff.wpIn (Z:=Z) (gr:=false) ?_ hZ;rcases h with ⟨v,w',hr,_,hn⟩|⟨w',hr,_,hn⟩|⟨f,args,hr,hc⟩|⟨l,f,tmps,asg,body,hr,hc⟩;exact .inl ⟨v,w',hr,(fun h=>by cases h),hn⟩;exact .inr (.inl ⟨w',hr,(fun h=>by cases h),hn⟩);refine .inr (.inr (.inl ⟨f,args,hr,Calls.mono hc fun e w' h=>?_⟩));rcases h with ⟨v,e1,_,h1⟩|⟨ch,e1,h1⟩;exact .inl ⟨v,e1,(fun h=>by cases h),h1⟩;exact .inr ⟨ch,e1,h1⟩;refine .inr (.inr (.inr ⟨l,f,tmps,asg,body,hr,RoundIn.mono hc fun e w' h=>?_⟩));obtain ⟨v,e1,_,h1⟩:=h;exact ⟨v,e1,(fun h=>by cases h),h1⟩
theorem EffQ.turn{P:Program}{Z Z':List PanicEntry→Act→World→Prop}{row:RelX}{gr:Bool}{o:Oper}{a b:Act}{w:World}{next next':Act→World→Prop}(he:execOp b.eval o=execOp a.eval o)
 (hz:∀ ch w',Z ch a w'→Z' ch b w')
 (hn:∀ v w',(gr=true→GX row w w')→next (a.put o.dst v) w'→next' (b.put o.dst v) w') (h:EffQ P Z row gr o a w next):EffQ P Z' row gr o b w next':=by
 rcases h with ⟨v,w',hr,hg,h1⟩|⟨w',hr,hg,h1⟩|⟨f,args,hr,hc⟩|⟨l,f,tmps,asg,body,hr,hc⟩;exact .inl ⟨v,w',by rw [he];exact hr,hg,hn _ _ hg h1⟩;exact .inr (.inl ⟨w',by rw [he];exact hr,hg,hn _ _ hg h1⟩);refine .inr (.inr (.inl ⟨f,args,by rw [he];exact hr,Calls.mono hc fun e w' h=>?_⟩));rcases h with ⟨v,e1,hg,h1⟩|⟨ch,e1,h1⟩;exact .inl ⟨v,e1,hg,hn _ _ hg h1⟩;exact .inr ⟨ch,e1,hz _ _ h1⟩;refine .inr (.inr (.inr ⟨l,f,tmps,asg,body,by rw [he];exact hr,RoundIn.mono hc fun e w' h=>?_⟩));obtain ⟨v,e1,hg,h1⟩:=h;exact ⟨v,e1,hg,hn _ _ hg h1⟩
def Avail(wt:Nat→Nat→Bool)(L:List Nat)(j:Nat):Prop:=∀ i∈L,wt j i=false
section
variable (P:Program) (Z:List PanicEntry→Act→World→Prop) (ops:Array Oper) (cl:Nat→Nat) (wt:Nat→Nat→Bool) (row:RelX) (K:Act→World→Prop)
def RT:Nat→List Nat→Act→World→Prop
 | 0,L,a,w=>L=[]∧K a w
 | n+1,L,a,w =>
  (∃ r,r∈L∧Avail wt L r∧(cl r=0∨cl r=3)∧∃ o,ops[r]? = some o∧∃ v,(Region.wanted o (yielded ops a.tmps)=true→∀ w1,cl r=3∨GX row w w1→(execOp a.eval o).run P w1 = .ok (.value v) w1)∧
   (Region.wanted o (yielded ops a.tmps)=false→v=undef)∧RT n (L.erase r) (a.put o.dst v) w)∨
  ((∀ r∈L,Avail wt L r→¬ (cl r=0∨cl r=3))∧∀ j∈L,Avail wt L j→∃ o,ops[j]? = some o∧
   if Region.wanted o (yielded ops a.tmps)=true then EffQ P Z row (cl j == 1) o a w (fun a' w'=>RT n (L.erase j) a' w') else RT n (L.erase j) (a.put o.dst undef) w)
end
section
variable {P:Program} {Z:List PanicEntry→Act→World→Prop} {ops:Array Oper} {cl:Nat→Nat} {wt:Nat→Nat→Bool} {row:RelX} {K:Act→World→Prop}
structure OkayT (ops:Array Oper) (cl:Nat→Nat) (wt:Nat→Nat→Bool):Prop where
  sel:∀ (j:Nat) (o:Oper) cs b,ops[j]? = some o→o.op≠.select cs b
  way:∀ (j:Nat) (o:Oper) (i:Nat),ops[j]? = some o→wt j i=true→∃ e,e∈o.after∧Region.binds .any e=true∧(e.on=i∨wt e.on i=true)
  lt:∀ (j:Nat) (o:Oper) (e:Edge),ops[j]? = some o→e∈o.after→Region.binds .any e=true→e.on<j
  pair:∀ (i j:Nat) (oi oj:Oper),i<j→ops[i]? = some oi→ops[j]? = some oj→wt j i=false→(¬ (cl i=0∨cl i=3)∧¬ (cl j=0∨cl j=3))∨(oi.apart ops oj=true∧(cl i=3∨cl j=3∨(cl i=0∧cl j≤1)∨(cl j=0∧cl i≤1)))
theorem OkayT.both(ok:OkayT ops cl wt){r j:Nat}{or oj:Oper}(hr:ops[r]? = some or)(hj:ops[j]? = some oj)(hne:r≠j)(h1:wt r j=false)(h2:wt j r=false)(hc:cl r=0∨cl r=3) :
 ((∀ d,or.dst=some d→d∉oj.looksAt ops)∧(∀ d,or.dst=some d→oj.dst≠some d)∧(∀ d,oj.dst=some d→d∉or.looksAt ops))∧(cl r=3∨(cl r=0∧(cl j=3∨cl j≤1))):=by
 rcases Nat.lt_or_gt_of_ne hne with hlt|hlt;rcases ok.pair r j or oj hlt hr hj h2 with h|⟨h,hh⟩;exact absurd hc h.1;refine ⟨Oper.apart_spec h,?_⟩;rcases hc with hc|hc;right;refine ⟨hc,?_⟩;omega;exact .inl hc;rcases ok.pair j r oj or hlt hj hr h1 with h|⟨h,hh⟩;exact absurd hc h.2;obtain ⟨p1,p2,p3⟩:=Oper.apart_spec h;refine ⟨⟨p3,fun d hd he=>p2 d he hd,p1⟩,?_⟩;rcases hc with hc|hc;right;refine ⟨hc,?_⟩;omega;exact .inl hc
theorem Avail.erase{L:List Nat}{j r:Nat}(h:Avail wt L j):Avail wt (L.erase r) j:=fun i hi=>h i (List.mem_of_mem_erase hi)
theorem Vuf{row:RelX}{a b c:World}(h:GX row a b)(k:GX row b c):GX row a c:=row.trans h k
theorem Yzf(ok:OkayT ops cl wt){j:Nat}{oj:Oper}(hj:ops[j]? = some oj)(hcj:cl j=0∨cl j=3) :
 ∀ (n:Nat) (L:List Nat) (a:Act) (w:World),L.length=n+1→L.Nodup→j∈L→Avail wt L j→RT P Z ops cl wt row K (n+1) L a w→
 ∃ v,(Region.wanted oj (yielded ops a.tmps)=true→∀ w1,cl j=3∨GX row w w1→(execOp a.eval oj).run P w1 = .ok (.value v) w1)∧
 (Region.wanted oj (yielded ops a.tmps)=false→v=undef)∧RT P Z ops cl wt row K n (L.erase j) (a.put oj.dst v) w:=by
 intro n
 induction n with
 | zero =>
  intro L a w hn nd hm hav h;obtain ⟨x,rfl⟩:∃ x,L=[x]:=List.length_eq_one_iff.1 hn;obtain rfl:j=x:=List.mem_singleton.1 hm;rcases h with ⟨r,hr,hra,hc,o,ho,v,h1,h2,h3⟩|⟨hno,_⟩;obtain rfl:r=j:=List.mem_singleton.1 hr;obtain rfl:o=oj:=Option.some.inj (ho.symm.trans hj);exact ⟨v,h1,h2,h3⟩;exact absurd hcj (hno j hm hav)
 | succ n ih =>
  intro L a w hn nd hm hav h;rcases h with ⟨r,hr,hra,hc,o,ho,u,h1,h2,h3⟩|⟨hno,_⟩;by_cases hrj:r=j;subst hrj;obtain rfl:o=oj:=Option.some.inj (ho.symm.trans hj);exact ⟨u,h1,h2,h3⟩;obtain ⟨⟨p1,p2,p3⟩,_⟩:=ok.both ho hj hrj (hra j hm) (hav r hr) hc;have evj:∀ v,execOp (a.put o.dst v).eval oj=execOp a.eval oj:=fun v=>execOp_put (ops:=ops) oj (fun cs b=>ok.sel j oj cs b hj) a o.dst v p1;have waj:∀ v,Region.wanted oj (yielded ops (a.put o.dst v).tmps)=Region.wanted oj (yielded ops a.tmps):=fun v=>wanted_put oj a o.dst v p1;have evi:∀ v,execOp (a.put oj.dst v).eval o=execOp a.eval o:=fun v=>execOp_put (ops:=ops) o (fun cs b=>ok.sel r o cs b ho) a oj.dst v p3;have wai:∀ v,Region.wanted o (yielded ops (a.put oj.dst v).tmps)=Region.wanted o (yielded ops a.tmps):=fun v=>wanted_put o a oj.dst v p3;have hmj:j∈L.erase r:=nd.mem_erase_iff.2 ⟨fun h=>hrj h.symm,hm⟩;have hmr:r∈L.erase j:=nd.mem_erase_iff.2 ⟨hrj,hr⟩;obtain ⟨v,k1,k2,k3⟩:=ih (L.erase r) _ w (by rw [List.length_erase_of_mem hr];omega) (nd.erase r) hmj hav.erase h3;rw [waj] at k1 k2;rw [evj] at k1;refine ⟨v,k1,k2,.inl ⟨r,hmr,hra.erase,hc,o,ho,u,?_,?_,?_⟩⟩;rw [wai,evi];exact h1;rw [wai];exact h2;rw [List.erase_comm,← Act.put_comm a u v p2];exact k3;exact absurd hcj (hno j hm hav)
theorem Ule(hZs:∀ ch (a:Act) d v w,Z ch (a.put d v) w→Z ch a w)(ok:OkayT ops cl wt){j:Nat}{oj:Oper}(hj:ops[j]? = some oj)(hcj:¬ (cl j=0∨cl j=3)) :
 ∀ (n:Nat) (L:List Nat) (a:Act) (w:World),L.length=n+1→L.Nodup→j∈L→Avail wt L j→RT P Z ops cl wt row K (n+1) L a w→
 if Region.wanted oj (yielded ops a.tmps)=true then EffQ P Z row (cl j == 1) oj a w (fun a' w'=>RT P Z ops cl wt row K n (L.erase j) a' w')
 else RT P Z ops cl wt row K n (L.erase j) (a.put oj.dst undef) w:=by
 intro n
 induction n with
 | zero =>
  intro L a w hn nd hm hav h;obtain ⟨x,rfl⟩:∃ x,L=[x]:=List.length_eq_one_iff.1 hn;obtain rfl:j=x:=List.mem_singleton.1 hm;rcases h with ⟨r,hr,hra,hc,_⟩|⟨_,hall⟩;obtain rfl:r=j:=List.mem_singleton.1 hr;exact absurd hc hcj;obtain ⟨o,ho,hb⟩:=hall j hm hav;obtain rfl:o=oj:=Option.some.inj (ho.symm.trans hj);exact hb
 | succ n ih =>
  intro L a w hn nd hm hav h;rcases h with ⟨r,hr,hra,hc,o,ho,u,h1,h2,h3⟩|⟨_,hall⟩;have hrj:r≠j:=fun e=>hcj (e▸hc);obtain ⟨⟨p1,p2,p3⟩,hq⟩:=ok.both ho hj hrj (hra j hm) (hav r hr) hc;have evj:∀ v,execOp (a.put o.dst v).eval oj=execOp a.eval oj:=fun v=>execOp_put (ops:=ops) oj (fun cs b=>ok.sel j oj cs b hj) a o.dst v p1;have waj:∀ v,Region.wanted oj (yielded ops (a.put o.dst v).tmps)=Region.wanted oj (yielded ops a.tmps):=fun v=>wanted_put oj a o.dst v p1;have evi:∀ v,execOp (a.put oj.dst v).eval o=execOp a.eval o:=fun v=>execOp_put (ops:=ops) o (fun cs b=>ok.sel r o cs b ho) a oj.dst v p3;have wai:∀ v,Region.wanted o (yielded ops (a.put oj.dst v).tmps)=Region.wanted o (yielded ops a.tmps):=fun v=>wanted_put o a oj.dst v p3;have hmj:j∈L.erase r:=nd.mem_erase_iff.2 ⟨fun h=>hrj h.symm,hm⟩;have hmr:r∈L.erase j:=nd.mem_erase_iff.2 ⟨hrj,hr⟩;have k:=ih (L.erase r) _ w (by rw [List.length_erase_of_mem hr];omega) (nd.erase r) hmj hav.erase h3;rw [waj] at k
  have back:∀ x w',(cl j=1→GX row w w')→RT P Z ops cl wt row K n ((L.erase r).erase j) ((a.put o.dst u).put oj.dst x) w'→RT P Z ops cl wt row K (n+1) (L.erase j) (a.put oj.dst x) w':=by
   intro x w' hg hk;refine .inl ⟨r,hmr,hra.erase,hc,o,ho,u,?_,?_,?_⟩;rw [wai,evi];intro hw w1 hg1;refine h1 hw w1 ?_;rcases hg1 with hg1|hg1;exact .inl hg1;rcases hq with hq|⟨_,hq⟩;exact .inl hq;refine .inr (Vuf (hg ?_) hg1);have:¬ cl j=0:=fun e=>hcj (.inl e);have:¬ cl j=3:=fun e=>hcj (.inr e);omega;rw [wai];exact h2;rw [List.erase_comm,← Act.put_comm a u x p2];exact hk
  by_cases hwj:Region.wanted oj (yielded ops a.tmps)=true;rw [if_pos hwj] at k ⊢;exact k.turn (evj u).symm (fun ch w' h=>hZs _ _ _ _ _ h) fun x w' hg hk=>back x w' (fun h=>hg (by simp [h])) hk;rw [if_neg hwj] at k ⊢;exact back _ _ (fun _=>GX.refl _ _) k;obtain ⟨o,ho,hb⟩:=hall j hm hav;obtain rfl:o=oj:=Option.some.inj (ho.symm.trans hj);exact hb
theorem Left.waitsT(ok:OkayT ops cl wt){L:List Nat}{listed:Array Bool}(hL:Left ops L listed) :
 ∀ (n j:Nat) (oj:Oper),j≤n→ops[j]? = some oj→(∀ e∈oj.after,Region.binds .any e=true→e.on∉L)→∀ i∈L,wt j i=false:=by
 intro n
 induction n with
 | zero =>
  intro j oj hjn hj _ i _
  cases hw:wt j i with
  | false=>rfl
  | true =>
   obtain ⟨e,he,hb,_⟩:=ok.way j oj i hj hw;have:=ok.lt j oj e hj he hb;omega
 | succ n ih =>
  intro j oj hjn hj hall i hi
  cases hw:wt j i with
  | false=>rfl
  | true =>
   obtain ⟨e,he,hb,hh⟩:=ok.way j oj i hj hw;have hlt:=ok.lt j oj e hj he hb;have hnot:=hall e he hb;rcases hh with rfl|hh;exact absurd hi hnot;have hes:e.on<ops.size:=by have:=(Array.getElem?_eq_some_iff.1 hj).1;omega
   have hoe:ops[e.on]? = some ops[e.on]:=Array.getElem?_eq_getElem hes;have:=ih e.on _ (by omega) hoe (hL.closed e.on _ hoe hnot) i hi;rw [this] at hh;cases hh
theorem Xaf{ρ:Option Nat}(hZs:∀ ch (a:Act) d v w,Z ch (a.put d v) w→Z ch a w)(ok:OkayT ops cl wt){Q:Exit→Act→World→Prop}(hQ:∀ a w,K a w→Q .normal a w)(hZ:∀ ch a w,Z ch a w→Q (.panic ch) a w) :
 ∀ (n:Nat) (L:List Nat) (listed:Array Bool) (a:Act) (w:World),L.length=n→Left ops L listed→RT P Z ops cl wt row K n L a w→wpAnyIn (WF ρ) 0 P .any ops Q n listed a w:=by
 intro n
 induction n with
 | zero =>
  intro L listed a w hn hL h;obtain rfl:L=[]:=List.eq_nil_of_length_eq_zero hn;refine ⟨?_,hQ _ _ h.2⟩;refine List.eq_nil_iff_forall_not_mem.2 fun j hj=>?_;obtain ⟨h0,o,ho,_⟩:=mem_ready.1 hj;have:=(hL.mem j).2 ⟨(Array.getElem?_eq_some_iff.1 ho).1,h0⟩;cases this
 | succ n ih =>
  intro L listed a w hn hL h;have nd:L.Nodup:=hL.sorted.imp (fun h=>Nat.ne_of_lt h)
  have inL:∀ j,j∈Region.ready .any ops listed→∃ oj,ops[j]? = some oj∧j∈L∧∀ e∈oj.after,Region.binds .any e=true→e.on∉L:=by
   intro j hj;obtain ⟨h0,oj,ho,hall⟩:=mem_ready.1 hj;have hjs:=(Array.getElem?_eq_some_iff.1 ho).1;refine ⟨oj,ho,(hL.mem j).2 ⟨hjs,h0⟩,fun e he hb hm=>?_⟩;have h1:=hall e he hb;obtain ⟨h2,h3⟩:=(hL.mem e.on).1 hm;have h4:e.on<listed.size:=by rw [hL.size];exact h2
   simp [h4] at h1 h3;rw [h1] at h3;cases h3
  refine ⟨fun h0=>?_,fun j hj=>?_⟩;exfalso
  match L,hn,hL with
  | i::rest,_,hL =>
   have him:=(hL.mem i).1 List.mem_cons_self;have hoi:ops[i]? = some ops[i]:=Array.getElem?_eq_getElem him.1
   have:i∈Region.ready .any ops listed:=by
    refine mem_ready.2 ⟨him.2,_,hoi,fun e he hb=>?_⟩;have hlt:=ok.lt i _ e hoi he hb
    have hno:e.on∉i::rest:=by
     intro hm;rcases List.mem_cons.1 hm with hm|hm;omega;have:=(List.pairwise_cons.1 hL.sorted).1 _ hm;omega
    have hes:e.on<listed.size:=by rw [hL.size];omega
    cases hl:listed.getD e.on true with
    | false=>exact absurd ((hL.mem e.on).2 ⟨by rw [← hL.size];exact hes,hl⟩) hno
    | true=>simpa [hes] using hl
   rw [h0] at this;cases this
  obtain ⟨oj,hoj,hjL,hall⟩:=inL j hj;have hws:∀ i∈L,wt j i=false:=hL.waitsT ok j j oj (Nat.le_refl _) hoj hall;have hL':=hL.step hoj hall;have hlen:(L.erase j).length=n:=by rw [List.length_erase_of_mem hjL];omega
  unfold wpOpIn;simp only [hoj];by_cases hc:cl j=0∨cl j=3;obtain ⟨v,h1,h2,h3⟩:=Yzf ok hoj hc n L a w hn nd hjL hws h;have hnext:=ih (L.erase j) _ (a.put oj.dst v) w hlen hL' h3;by_cases hwj:Region.wanted oj (yielded ops a.tmps)=true;rw [if_pos hwj];have hr:=h1 hwj w (.inr (GX.refl _ _));refine ⟨fun _ _=>trivial,?_⟩;rw [Jha hr (fun d h=>by cases h),hr];exact hnext;rw [if_neg hwj];have:=h2 (by simpa using hwj);subst this;exact ⟨fun _ _=>trivial,hnext⟩;have h1:=Ule hZs ok hoj hc n L a w hn nd hjL hws h;by_cases hwj:Region.wanted oj (yielded ops a.tmps)=true;rw [if_pos hwj] at h1 ⊢;refine EffQ.wpIn (Z:=Z) (gr:=cl j == 1) (row:=row) ?_ (fun ch w' h=>hZ _ _ _ h);exact h1.turn rfl (fun _ _ h=>h) fun v w' _ hk=>ih (L.erase j) _ _ w' hlen hL' hk;rw [if_neg hwj] at h1 ⊢;exact ⟨fun _ _=>trivial,ih (L.erase j) _ _ w hlen hL' h1⟩
theorem Ume{ρ:Option Nat}(hZs:∀ ch (a:Act) d v w,Z ch (a.put d v) w→Z ch a w)(ok:OkayT ops cl wt){id:Nat}{Q:Exit→Act→World→Prop}(hZ:∀ ch a w,Z ch a w→Q (.panic ch) a w){a:Act}{w:World}(hm:P.follows .mixedOrders=true)
 (h:RT P Z ops cl wt row (fun a w=>Q .normal a w) ops.size (List.range ops.size) a w.drew):(Code.region id ops true).wpIn (WF ρ) 0 P Q a w:=by
 refine wpIn_region_any hm ?_;have:=Xaf (Q:=Q) (ρ:=ρ) hZs ok (fun _ _ h=>h) hZ ops.size (List.range ops.size) (Array.replicate ops.size false) a w.drew (by simp) (Zjd ops) h;simpa using this
theorem Vvf(ok:OkayT ops cl wt){id:Nat}{Q:Exit→Act→World→Prop}{a:Act}{w:World}(hm:P.follows .mixedOrders=true)
  (h:RT P NoP ops cl wt row (fun a w=>Q .normal a w) ops.size (List.range ops.size) a w.drew):(Code.region id ops true).wp P Q a w :=
 wpIn_wide.1 (Ume (ρ:=none) (fun _ _ _ _ _ h=>h) ok (fun _ _ _ h=>h.elim) hm h)
end
/-! a look at the region's text -/
def Zsd(ops:Array Oper)(cl:List Nat)(ms:List Nat)(E:List (Nat×Oper×Nat))(k:Nat)(o:Oper):Bool :=
 Jxe o&&o.after.toList.all (fun e=>!Region.binds .any e || Nat.blt e.on k)&&Nat.beq (ms.getD k 0) (maskOf ms o.after.toList) &&
 E.all (fun p=>(ms.getD k 0).testBit p.1 || (!(Nat.beq p.2.2 0 || Nat.beq p.2.2 3) && !(Nat.beq (clOf cl k) 0 || Nat.beq (clOf cl k) 3)) || (p.2.1.apart ops o&&(Nat.beq p.2.2 3 || Nat.beq (clOf cl k) 3 || (Nat.beq p.2.2 0&&Nat.ble (clOf cl k) 1) || (Nat.beq (clOf cl k) 0&&Nat.ble p.2.2 1))))
def lookFromT(ops:Array Oper)(cl:List Nat)(ms:List Nat):List (Nat×Oper×Nat)→Nat→List Oper→Bool
 | _,_,[]=>true
 | E,k,o::rest=>Zsd ops cl ms E k o&&lookFromT ops cl ms ((k,o,clOf cl k)::E) (k+1) rest
def okT(l:List Oper)(cl:List Nat)(ms:List Nat):Bool:=lookFromT l.toArray cl ms [] 0 l&&Nat.ble ms.length l.length
theorem Upb(ops:Array Oper)(cl:List Nat)(ms:List Nat):∀ (l:List Oper) (E:List (Nat×Oper×Nat)) (k:Nat),
  (∀ j,l[j]? = ops[k+j]?)→(∀ i,i<k→∃ oi,ops[i]? = some oi∧(i,oi,clOf cl i)∈E)→lookFromT ops cl ms E k l=true→
  ∀ j oj,k≤j→ops[j]? = some oj→∃ E',(∀ i,i<j→∃ oi,ops[i]? = some oi∧(i,oi,clOf cl i)∈E')∧Zsd ops cl ms E' j oj=true
 | [],_,k,hl,_,_=>by
  intro j oj hkj hj;have:=hl (j-k);rw [show k+(j-k)=j by omega,hj] at this;simp at this
 | o::rest,E,k,hl,hE,h=>by
  intro j oj hkj hj;unfold lookFromT at h;rw [Bool.and_eq_true] at h;have h0:ops[k]? = some o:=by simpa using (hl 0).symm
  by_cases hjk:j=k;subst hjk;obtain rfl:o=oj:=Option.some.inj (h0.symm.trans hj);exact ⟨E,hE,h.1⟩;refine Upb ops cl ms rest ((k,o,clOf cl k)::E) (k+1) (fun j=>by have:=hl (j+1);simpa [Nat.add_assoc,Nat.add_comm 1 j] using this) ?_ h.2 j oj (by omega) hj;intro i hi;by_cases hik:i=k;subst hik;exact ⟨o,h0,List.mem_cons_self⟩;obtain ⟨oi,h1,h2⟩:=hE i (by omega);exact ⟨oi,h1,List.mem_cons_of_mem _ h2⟩
theorem Vwf{l:List Oper}{cl:List Nat}{ms:List Nat}(h:okT l cl ms=true):OkayT l.toArray (clOf cl) (wtOf ms):=by
 unfold okT at h;rw [Bool.and_eq_true] at h;obtain ⟨h,hml⟩:=h;have S:=Upb l.toArray cl ms l [] 0 (by simp) (fun i hi=>absurd hi (by omega)) h;have at_:∀ j oj,l.toArray[j]? = some oj→∃ E',(∀ i,i<j→∃ oi,l.toArray[i]? = some oi∧(i,oi,clOf cl i)∈E')∧Zsd l.toArray cl ms E' j oj=true:=fun j oj hj=>S j oj (Nat.zero_le _) hj;refine ⟨?_,?_,?_,?_⟩;intro j o cs b hj heq;obtain ⟨E',_,hh⟩:=at_ j o hj;simp [Zsd,Jxe,heq] at hh;intro j o i hj hw;obtain ⟨E',_,hh⟩:=at_ j o hj;simp only [Zsd,Bool.and_eq_true] at hh;have hm:=Nat.eq_of_beq_eq_true hh.1.2;unfold wtOf at hw;rw [hm] at hw;obtain ⟨e,h1,h2⟩:=Jpb ms i _ hw;exact ⟨e,Array.mem_toList_iff.1 h1,h2⟩;intro j o e hj he hb;obtain ⟨E',_,hh⟩:=at_ j o hj;simp only [Zsd,Bool.and_eq_true,List.all_eq_true,Array.mem_toList_iff,Bool.or_eq_true,Bool.not_eq_true'] at hh;rcases hh.1.1.2 e he with h1|h1;rw [hb] at h1;cases h1;exact Nat.le_of_ble_eq_true h1;intro i j oi oj hij hi hj hw;obtain ⟨E',hE,hh⟩:=at_ j oj hj;simp only [Zsd,Bool.and_eq_true,List.all_eq_true] at hh;obtain ⟨oi',h1,h2⟩:=hE i hij;obtain rfl:oi'=oi:=Option.some.inj (h1.symm.trans hi);have h3:=hh.2 _ h2;unfold wtOf at hw;dsimp only at h3;rw [hw] at h3;have e:∀ (a b:Nat),Nat.beq a b=true↔a=b:=fun a b=>⟨Nat.eq_of_beq_eq_true,fun h=>by subst h;exact Nat.beq_refl a⟩;have e':∀ (a b:Nat),Nat.ble a b=true↔a≤b:=fun a b=>⟨Nat.le_of_ble_eq_true,Nat.ble_eq_true_of_le⟩;simp only [Bool.false_or,Bool.or_eq_true,Bool.and_eq_true,Bool.not_eq_true',← Bool.not_eq_true,e,e'] at h3;rcases h3 with h3|⟨ha,h3⟩;exact .inl ⟨h3.1,h3.2⟩;refine .inr ⟨ha,?_⟩;rcases h3 with ((h3|h3)|h3)|h3;exact .inl h3;exact .inr (.inl h3);exact .inr (.inr (.inl h3));exact .inr (.inr (.inr h3))
/-! the steps -/
def isRdB(cl:List Nat)(j:Nat):Bool:=Nat.beq (clOf cl j) 0 || Nat.beq (clOf cl j) 3
def availB(ms:List Nat)(L:List Nat)(j:Nat):Bool:=L.all fun i=>!(wtOf ms j i)
def candB(cl ms L:List Nat):List Nat:=L.filter fun j=>availB ms L j
theorem Jda(ms:List Nat)(L:List Nat)(j:Nat):availB ms L j=true↔Avail (wtOf ms) L j:=by
 unfold availB Avail;simp [List.all_eq_true]
theorem Xbf(cl:List Nat)(j:Nat):isRdB cl j=true↔(clOf cl j=0∨clOf cl j=3):=by
 unfold isRdB;rw [Bool.or_eq_true];exact ⟨fun h=>h.imp Nat.eq_of_beq_eq_true Nat.eq_of_beq_eq_true,fun h=>h.imp (fun e=>by rw [e];rfl) (fun e=>by rw [e];rfl)⟩
structure ST (P:Program) (Z:List PanicEntry→Act→World→Prop) (ops:List Oper) (cl ms:List Nat) (row:RelX) (n:Nat) (K:Act→World→Prop) (m:Nat) (L:List Nat) (σ:List Ent) (w:World):Prop where mk ::
  h:∀ a,Kn n σ a→RT P Z ops.toArray (clOf cl) (wtOf ms) row K m L a w
section
variable {P:Program} {Z:List PanicEntry→Act→World→Prop} {ops:List Oper} {cl ms:List Nat} {row:RelX} {n:Nat} {K:Act→World→Prop} {m:Nat} {L L':List Nat} {σ:List Ent} {w:World} {d:Nat} {op:Op} {ty:TypeId} {pos:String} {after:Array Edge} {v:Value}
instance:CoeFun (ST P Z ops cl ms row n K m L σ w) fun _=>∀ a,Kn n σ a→RT P Z ops.toArray (clOf cl) (wtOf ms) row K m L a w:=⟨ST.h⟩
theorem Qk(h:∀ a,Kn n σ a→K a w):ST P Z ops cl ms row n K 0 [] σ w:=.mk fun a ha=>⟨rfl,h a ha⟩
theorem Ula(τ:List Ent)(hs:Sub τ σ)(h:ST P Z ops cl ms row n K m L τ w):ST P Z ops cl ms row n K m L σ w:=.mk fun a ha=>h a (ha.sub hs)
theorem Vxf(r:Nat)(hr:ops.toArray[r]? = some ⟨some d,op,ty,pos,after,none⟩)(hb:(L.contains r&&availB ms L r&&Nat.beq (clOf cl r) 0&&Nat.blt d n)=true)(hL:L.erase r=L')
 (hv:∀ w1,GX row w w1→Rd P n σ True w1 op ty v) (h:ST P Z ops cl ms row n K m L' ((d,True,v) :: σ) w):ST P Z ops cl ms row n K (m+1) L σ w:=.mk fun a ha=>by
 simp only [Bool.and_eq_true] at hb;obtain ⟨⟨⟨h1,h2⟩,h3⟩,h4⟩:=hb;refine .inl ⟨r,by simpa using h1,(Jda ms L r).1 h2,.inl (Nat.eq_of_beq_eq_true h3),_,hr,v,fun _ w1 hg=>?_,(fun hn=>by cases hn),hL▸h _ (ha.put h4 (fun _=>O) (fun hn=>absurd trivial hn))⟩;rcases hg with hg|hg;rw [Nat.eq_of_beq_eq_true h3] at hg;cases hg;exact hv w1 hg _ _ _ _ a ha trivial w1 (G.refl _)
theorem Ylb(r:Nat)(hr:ops.toArray[r]? = some ⟨some d,op,ty,pos,after,none⟩)(hb:(L.contains r&&availB ms L r&&Nat.beq (clOf cl r) 3&&Nat.blt d n)=true)(hL:L.erase r=L')
 (hv:∀ wb,Rd P n σ True wb op ty v) (h:ST P Z ops cl ms row n K m L' ((d,True,v) :: σ) w):ST P Z ops cl ms row n K (m+1) L σ w:=.mk fun a ha=>by
 simp only [Bool.and_eq_true] at hb;obtain ⟨⟨⟨h1,h2⟩,h3⟩,h4⟩:=hb;exact .inl ⟨r,by simpa using h1,(Jda ms L r).1 h2,.inr (Nat.eq_of_beq_eq_true h3),_,hr,v,fun _ w1 hg=>hv w1 _ _ _ _ a ha trivial w1 (G.refl _),(fun hn=>by cases hn),hL▸h _ (ha.put h4 (fun _=>rfl) (fun hn=>absurd trivial hn))⟩
open Classical in
theorem Ztd{g t:Nat}{want b:Bool}{c0:Prop}(r:Nat)(hr:ops.toArray[r]? = some ⟨some d,op,ty,pos,after,some (g,want)⟩)(hb:(L.contains r&&availB ms L r&&Nat.beq (clOf cl r) 0&&Nat.blt d n)=true)(hL:L.erase r=L')
 (hgd:((ops.toArray[g]?).bind (·.dst))=some t) (hlk:look σ t=some (c0,.bool b))
 (hv:∀ w1,GX row w w1→Rd P n σ (c0∧b=want) w1 op ty v) (h:ST P Z ops cl ms row n K m L' ((d,c0∧b=want,v) :: σ) w):ST P Z ops cl ms row n K (m+1) L σ w:=.mk fun a ha=>by
 simp only [Bool.and_eq_true] at hb;obtain ⟨⟨⟨h1,h2⟩,h3⟩,h4⟩:=hb;have hw:=Xyb (op:=op) (ty:=ty) (pos:=pos) (after:=after) (want:=want) (d:=some d) hgd hlk ha;refine .inl ⟨r,by simpa using h1,(Jda ms L r).1 h2,.inl (Nat.eq_of_beq_eq_true h3),_,hr,if c0∧b=want then v else undef,fun hwt w1 hg=>?_,fun hn=>?_,hL▸h _ (ha.put h4 (fun hh=>if_pos hh) (fun hh=>if_neg hh))⟩;rcases hg with hg|hg;rw [Nat.eq_of_beq_eq_true h3] at hg;cases hg;rw [if_pos (hw.1 hwt)];exact hv w1 hg _ _ _ _ a ha (hw.1 hwt) w1 (G.refl _);rw [if_neg (fun hh=>by rw [hw.2 hh] at hn;cases hn)]
open Classical in
theorem Wta{g t:Nat}{want b:Bool}{c0:Prop}(r:Nat)(hr:ops.toArray[r]? = some ⟨some d,op,ty,pos,after,some (g,want)⟩)(hb:(L.contains r&&availB ms L r&&Nat.beq (clOf cl r) 3&&Nat.blt d n)=true)(hL:L.erase r=L')
 (hgd:((ops.toArray[g]?).bind (·.dst))=some t) (hlk:look σ t=some (c0,.bool b))
 (hv:∀ wb,Rd P n σ (c0∧b=want) wb op ty v) (h:ST P Z ops cl ms row n K m L' ((d,c0∧b=want,v) :: σ) w):ST P Z ops cl ms row n K (m+1) L σ w:=.mk fun a ha=>by
 simp only [Bool.and_eq_true] at hb;obtain ⟨⟨⟨h1,h2⟩,h3⟩,h4⟩:=hb;have hw:=Xyb (op:=op) (ty:=ty) (pos:=pos) (after:=after) (want:=want) (d:=some d) hgd hlk ha;refine .inl ⟨r,by simpa using h1,(Jda ms L r).1 h2,.inr (Nat.eq_of_beq_eq_true h3),_,hr,if c0∧b=want then v else undef,fun hwt w1 hg=>?_,fun hn=>?_,hL▸h _ (ha.put h4 (fun hh=>if_pos hh) (fun hh=>if_neg hh))⟩;rw [if_pos (hw.1 hwt)];exact hv w1 _ _ _ _ a ha (hw.1 hwt) w1 (G.refl _);rw [if_neg (fun hh=>by rw [hw.2 hh] at hn;cases hn)]
def STE(P:Program)(Z:List PanicEntry→Act→World→Prop)(ops:List Oper)(cl ms:List Nat)(row:RelX)(n:Nat)(K:Act→World→Prop)(m:Nat)(L:List Nat)(σ:List Ent)(w:World)(j:Nat):Prop :=
 ∀ a,Kn n σ a→∃ o,ops.toArray[j]? = some o∧if Region.wanted o (yielded ops.toArray a.tmps)=true then EffQ P Z row (clOf cl j == 1) o a w (fun a' w'=>RT P Z ops.toArray (clOf cl) (wtOf ms) row K m (L.erase j) a' w')
  else RT P Z ops.toArray (clOf cl) (wtOf ms) row K m (L.erase j) (a.put o.dst undef) w
theorem Une(cs:List Nat)(hb:L.all (fun r=>!(availB ms L r&&isRdB cl r))=true)(hc:candB cl ms L=cs)(h:∀ j∈cs,STE P Z ops cl ms row n K m L σ w j):ST P Z ops cl ms row n K (m+1) L σ w:=.mk fun a ha=>by
 refine .inr ⟨fun r hr hav hrd=>?_,fun j hj hav=>?_⟩;have:=List.all_eq_true.1 hb r hr;rw [(Jda ms L r).2 hav,(Xbf cl r).2 hrd] at this;cases this;exact h j (by rw [← hc];exact List.mem_filter.2 ⟨hj,(Jda ms L j).2 hav⟩) a ha
theorem Zv(j:Nat)(hb:L.all (fun r=>!(availB ms L r&&isRdB cl r))=true)(hc:candB cl ms L=[j])(h:STE P Z ops cl ms row n K m L σ w j):ST P Z ops cl ms row n K (m+1) L σ w :=
 Une [j] hb hc fun i hi=>by rw [List.mem_singleton.1 hi];exact h
theorem Uua(j k:Nat)(hb:L.all (fun r=>!(availB ms L r&&isRdB cl r))=true)(hc:candB cl ms L=[j,k])(h:STE P Z ops cl ms row n K m L σ w j)(h':STE P Z ops cl ms row n K m L σ w k):ST P Z ops cl ms row n K (m+1) L σ w :=
 Une [j,k] hb hc fun i hi=>by
 rcases List.mem_cons.1 hi with rfl|hi;exact h;rw [List.mem_singleton.1 hi];exact h'
theorem Xsg(j k l:Nat)(hb:L.all (fun r=>!(availB ms L r&&isRdB cl r))=true)(hc:candB cl ms L=[j,k,l])(h:STE P Z ops cl ms row n K m L σ w j)(h':STE P Z ops cl ms row n K m L σ w k)(h'':STE P Z ops cl ms row n K m L σ w l):ST P Z ops cl ms row n K (m+1) L σ w :=
 Une [j,k,l] hb hc fun i hi=>by
 rcases List.mem_cons.1 hi with rfl|hi;exact h;rcases List.mem_cons.1 hi with rfl|hi;exact h';rw [List.mem_singleton.1 hi];exact h''
theorem Zw{j:Nat}{o:Oper}(cl2:List Nat)(ho:ops.toArray[j]? = some o)(hL:L.erase j=L')(hc:(Nat.beq (clOf cl2 j) 0 || Nat.beq (clOf cl2 j) 3)=false)
 (h:SR P Z ops cl2 [] w n (fun a' w'=>GX row w w'∧RT P Z ops.toArray (clOf cl) (wtOf ms) row K m L' a' w') j [o] σ w):STE P Z ops cl ms row n K m L σ w j:=fun a ha=>by
 subst hL
 have h1:=h (fun i o' h=>by cases i with
  | zero=>injection h with h;subst h;exact ho
  | succ i=>cases h) a ha
 have hc':¬ (clOf cl2 j=0∨clOf cl2 j=3):=by
  intro e;rw [Bool.or_eq_false_iff] at hc;rcases e with e|e <;> rw [e] at hc <;> simp at hc
 obtain ⟨o',ho',h2⟩:=h1;obtain rfl:o'=o:=Option.some.inj (ho'.symm.trans ho);rw [if_neg hc'] at h2;refine ⟨o',ho,?_⟩;by_cases hw:Region.wanted o' (yielded ops.toArray a.tmps)=true;rw [if_pos hw] at h2 ⊢;rcases h2 with ⟨v,w',hr,_,hn⟩|⟨w',hr,_,hn⟩|⟨f,args,hr,hcl⟩|⟨l,f,tmps,asg,body,hr,hcl⟩;exact .inl ⟨v,w',hr,fun _=>hn.1,hn.2⟩;exact .inr (.inl ⟨w',hr,fun _=>hn.1,hn.2⟩);refine .inr (.inr (.inl ⟨f,args,hr,Calls.mono hcl fun e w' h=>?_⟩));rcases h with ⟨v,he,_,hn⟩|h;exact .inl ⟨v,he,fun _=>hn.1,hn.2⟩;exact .inr h;exact .inr (.inr (.inr ⟨l,f,tmps,asg,body,hr,RoundIn.mono hcl fun e w' ⟨v,he,_,hn⟩=>⟨v,he,fun _=>hn.1,hn.2⟩⟩));rw [if_neg hw] at h2 ⊢;exact h2.2
theorem Yf{j:Nat}{o:Oper}(cl2:List Nat)(ho:ops.toArray[j]? = some o)(hL:L.erase j=L')(hc:(Nat.beq (clOf cl2 j) 0 || Nat.beq (clOf cl2 j) 3)=false)(h1c:Nat.beq (clOf cl j) 1=false)
 (h:SR P Z ops cl2 [] w n (fun a' w'=>RT P Z ops.toArray (clOf cl) (wtOf ms) row K m L' a' w') j [o] σ w):STE P Z ops cl ms row n K m L σ w j:=fun a ha=>by
 subst hL
 have h1:=h (fun i o' h=>by cases i with
  | zero=>injection h with h;subst h;exact ho
  | succ i=>cases h) a ha
 have hc':¬ (clOf cl2 j=0∨clOf cl2 j=3):=by
  intro e;rw [Bool.or_eq_false_iff] at hc;rcases e with e|e <;> rw [e] at hc <;> simp at hc
 have h1c':(clOf cl j == 1)=false:=by
  cases h:(clOf cl j == 1) with
  | false=>rfl
  | true=>rw [eq_of_beq h] at h1c;cases h1c
 obtain ⟨o',ho',h2⟩:=h1;obtain rfl:o'=o:=Option.some.inj (ho'.symm.trans ho);rw [if_neg hc'] at h2;refine ⟨o',ho,?_⟩;rw [h1c'];by_cases hw:Region.wanted o' (yielded ops.toArray a.tmps)=true;rw [if_pos hw] at h2 ⊢;rcases h2 with ⟨v,w',hr,_,hn⟩|⟨w',hr,_,hn⟩|⟨f,args,hr,hcl⟩|⟨l,f,tmps,asg,body,hr,hcl⟩;exact .inl ⟨v,w',hr,(fun h=>by cases h),hn⟩;exact .inr (.inl ⟨w',hr,(fun h=>by cases h),hn⟩);refine .inr (.inr (.inl ⟨f,args,hr,Calls.mono hcl fun e w' h=>?_⟩));rcases h with ⟨v,he,_,hn⟩|h;exact .inl ⟨v,he,(fun h=>by cases h),hn⟩;exact .inr h;exact .inr (.inr (.inr ⟨l,f,tmps,asg,body,hr,RoundIn.mono hcl fun e w' ⟨v,he,_,hn⟩=>⟨v,he,(fun h=>by cases h),hn⟩⟩));rw [if_neg hw] at h2 ⊢;exact h2
theorem Yx{cl2:List Nat}{W0:World}{k:Nat}(h:ST P Z ops cl ms row n K m L σ w):SR P Z ops cl2 [] W0 n (fun a' w'=>RT P Z ops.toArray (clOf cl) (wtOf ms) row K m L a' w') k [] σ w:=Ze h
theorem Yi{cl2:List Nat}{W0 w0:World}{k:Nat}(hg:GX row w0 w)(h:ST P Z ops cl ms row n K m L σ w):SR P Z ops cl2 [] W0 n (fun a' w'=>GX row w0 w'∧RT P Z ops.toArray (clOf cl) (wtOf ms) row K m L a' w') k [] σ w:=Ze fun a ha=>⟨hg,h a ha⟩
end
section
variable {P:Program} {n:Nat} {N T:Act→World→Prop} {X:List (Nat×(Act→World→Prop))} {σ:List Ent} {w:World}
theorem Xu{id:Nat}{l:List Oper}(row:RelX)(cl:List Nat)(ms:List Nat)(hm:P.follows .mixedOrders=true)(hok:okT l cl ms=true)(L:List Nat)(hL:List.range l.length=L)
 (h:ST P NoP l cl ms row n N l.length L σ w.drew):SC P n (.region id l.toArray true) N X T σ w:=.mk fun a ha=>by
 have h1:=h a ha;subst hL;have h2:RT P NoP l.toArray (clOf cl) (wtOf ms) row (fun a w=>(Qof N X T) .normal a w) l.toArray.size (List.range l.toArray.size) a w.drew:=by simpa [Qof] using h1
 exact Vvf (Vwf hok) hm h2
end
section
variable {P:Program} {n:Nat} {σ:List Ent} {c:Prop} {wb:World} {ty:TypeId} {v:Value}
end
section
variable {P:Program} {Z:List PanicEntry→Act→World→Prop} {ops:List Oper} {cl:List Nat} {lv:List Bool} {W0:World} {n:Nat} {K:Act→World→Prop} {k:Nat} {rest:List Oper} {σ:List Ent} {w:World} {d:Nat} {ty:TypeId} {pos:String} {after:Array Edge}
theorem Vyf{g t:Nat}{want b:Bool}{c0:Prop}{op:Op}{f:FuncId}{args:Array Value}{R:Value→World→Prop}(hb:(!Nat.beq (clOf cl k) 0 && !Nat.beq (clOf cl k) 3&&Nat.blt d n)=true)
  (hgd:((ops.toArray[g]?).bind (·.dst))=some t) (hlk:look σ t=some (c0,.bool b)) (hr:c0∧b=want→RunC P n σ (c0∧b=want) w op ty f args) (hC:c0∧b=want→Ret P f args w fun v w'=>R v w'∧G w w')
  (h:∀ v w',(c0∧b=want→R v w')→G w w'→SR P Z ops cl lv W0 n K (k+1) rest ((d,c0∧b=want,v) :: σ) w') :
  SR P Z ops cl lv W0 n K k (⟨some d,op,ty,pos,after,some (g,want)⟩::rest) σ w :=
 Vrf hb hgd hlk hr hC (fun v w' _ hv=>⟨fun _=>hv.2,h v w' (fun _=>hv.1) hv.2⟩) (fun hn=>h undef w (fun hc=>absurd hc hn) (G.refl w))
end
def opv(σ:List Ent):Operand→Option (Prop×Value)
 | .tmp t=>look σ t
 | .const v=>some (True,v)
 | .global g=>some (True,.pointer (some ⟨g,0,none⟩))
 | .func f=>some (True,.func (.func f) #[] #[])
section
variable {n:Nat} {σ:List Ent} {c:Prop} {v:Value}
theorem Ywa{x:Operand}(h:opv σ x=some (True,v)):Ev n σ c x v:=by
 cases x with
 | tmp t=>exact Zc h
 | const u=>injection h with h;injection h with _ h;subst h;exact Xg
 | global g=>injection h with h;injection h with _ h;subst h;exact ev_g
 | func f=>injection h with h;injection h with _ h;subst h;exact Vi
theorem aq0:Qga n σ c [] []:=Xl
theorem aqc{x:Operand}{u:Value}{xs:List Operand}{vs:List Value}(h:opv σ x=some (True,u))(k:Qga n σ c xs vs):Qga n σ c (x::xs) (u::vs):=Yr (Ywa h) k
theorem pq0:Usa n σ c #[] []:=Vu
theorem pqc{i:Nat}{x:Operand}{u:Value}{ps:List (Nat×Operand)}{vs:List (Nat×Value)}(h:opv σ x=some (True,u))(k:Usa n σ c ps.toArray vs):Usa n σ c ((i,x)::ps).toArray ((i,u)::vs):=Xt (Ywa h) k
end
section
variable {P:Program} {Z:List PanicEntry→Act→World→Prop} {ops:List Oper} {cl:List Nat} {lv:List Bool} {W0:World} {n:Nat} {K:Act→World→Prop} {k:Nat} {rest:List Oper} {σ:List Ent} {w:World} {d:Nat} {op:Op} {ty:TypeId} {pos:String} {after:Array Edge} {v:Value} {x y:Operand}
section
theorem Zq(hx:opv σ x=some (True,v))(h:SR P Z ops cl lv W0 n K (k+1) rest ((d,True,v) :: σ) w)(hb:(Nat.beq (clOf cl k) 3&&Nat.blt d n)=true:=by exact rfl):SR P Z ops cl lv W0 n K k (⟨some d,.move x,ty,pos,after,none⟩::rest) σ w:=Zo hb (fun _=>Zl (Ywa hx)) h
theorem Yo(hx:opv σ x=some (True,v))(h:SR P Z ops cl lv W0 n K (k+1) rest ((d,True,v) :: σ) w)(hb:(Nat.beq (clOf cl k) 3&&Nat.blt d n)=true:=by exact rfl):SR P Z ops cl lv W0 n K k (⟨some d,.assign x,ty,pos,after,none⟩::rest) σ w:=Zo hb (fun _=>Yt (Ywa hx)) h
theorem Ql{a:Addr}(hx:opv σ x=some (True,.pointer (some a)))(h:SR P Z ops cl lv W0 n K (k+1) rest ((d,True,.pointer (some a)) :: σ) w)(hb:(Nat.beq (clOf cl k) 3&&Nat.blt d n)=true:=by exact rfl):SR P Z ops cl lv W0 n K k (⟨some d,.nilCheck x,ty,pos,after,none⟩::rest) σ w:=Zo hb (fun _=>Jo (Ywa hx)) h
theorem Yj{s j off b o:Nat}(hf:Xj P s j=some off)(hx:opv σ x=some (True,.pointer (some ⟨b,o,none⟩)))(h:SR P Z ops cl lv W0 n K (k+1) rest ((d,True,.pointer (some ⟨b,o+off,none⟩)) :: σ) w)(hb:(Nat.beq (clOf cl k) 3&&Nat.blt d n)=true:=by exact rfl):SR P Z ops cl lv W0 n K k (⟨some d,.fieldAddr s x j,ty,pos,after,none⟩::rest) σ w:=Zo hb (fun _=>Zn hf (Ywa hx)) h
theorem Xtg{t:TypeId}{i:Bool}(hx:opv σ x=some (True,.bool i))(h:SR P Z ops cl lv W0 n K (k+1) rest ((d,True,.bool (!i)) :: σ) w)(hb:(Nat.beq (clOf cl k) 3&&Nat.blt d n)=true:=by exact rfl):SR P Z ops cl lv W0 n K k (⟨some d,.unOp .not t x,ty,pos,after,none⟩::rest) σ w:=Zo hb (fun _=>Xwb (Ywa hx)) h
theorem Zwa{t u:TypeId}{q:IntKind}{i j:Int}(hx:opv σ x=some (True,.int q i))(hy:opv σ y=some (True,.int q j))(h:SR P Z ops cl lv W0 n K (k+1) rest ((d,True,.bool (decide (i=j))) :: σ) w)(hb:(Nat.beq (clOf cl k) 3&&Nat.blt d n)=true:=by exact rfl):SR P Z ops cl lv W0 n K k (⟨some d,.binOp .eql t x y u,ty,pos,after,none⟩::rest) σ w:=Zo hb (fun _=>Zla (Ywa hx) (Ywa hy)) h
theorem Zud{t u:TypeId}{q:IntKind}{i j:Int}(hx:opv σ x=some (True,.int q i))(hy:opv σ y=some (True,.int q j))(h:SR P Z ops cl lv W0 n K (k+1) rest ((d,True,.bool (!decide (i=j))) :: σ) w)(hb:(Nat.beq (clOf cl k) 3&&Nat.blt d n)=true:=by exact rfl):SR P Z ops cl lv W0 n K k (⟨some d,.binOp .neq t x y u,ty,pos,after,none⟩::rest) σ w:=Zo hb (fun _=>Uwc (Ywa hx) (Ywa hy)) h
theorem Xka{t u:TypeId}{q:IntKind}{i j:Int}(hx:opv σ x=some (True,.int q i))(hy:opv σ y=some (True,.int q j))(h:SR P Z ops cl lv W0 n K (k+1) rest ((d,True,.bool (decide (i<j))) :: σ) w)(hb:(Nat.beq (clOf cl k) 3&&Nat.blt d n)=true:=by exact rfl):SR P Z ops cl lv W0 n K k (⟨some d,.binOp .lss t x y u,ty,pos,after,none⟩::rest) σ w:=Zo hb (fun _=>Xvc (Ywa hx) (Ywa hy)) h
theorem Yse{t u:TypeId}{q:IntKind}{i j:Int}(hx:opv σ x=some (True,.int q i))(hy:opv σ y=some (True,.int q j))(h:SR P Z ops cl lv W0 n K (k+1) rest ((d,True,.bool (decide (j<i))) :: σ) w)(hb:(Nat.beq (clOf cl k) 3&&Nat.blt d n)=true:=by exact rfl):SR P Z ops cl lv W0 n K k (⟨some d,.binOp .gtr t x y u,ty,pos,after,none⟩::rest) σ w:=Zo hb (fun _=>Zld (Ywa hx) (Ywa hy)) h
theorem Yte{t u:TypeId}{q:IntKind}{i j:Int}(hx:opv σ x=some (True,.int q i))(hy:opv σ y=some (True,.int q j))(h:SR P Z ops cl lv W0 n K (k+1) rest ((d,True,.bool (decide (j≤i))) :: σ) w)(hb:(Nat.beq (clOf cl k) 3&&Nat.blt d n)=true:=by exact rfl):SR P Z ops cl lv W0 n K k (⟨some d,.binOp .geq t x y u,ty,pos,after,none⟩::rest) σ w:=Zo hb (fun _=>Zmd (Ywa hx) (Ywa hy)) h
theorem Qsd{t u:TypeId}{i j:List UInt8}(hx:opv σ x=some (True,Str i))(hy:opv σ y=some (True,Str j))(h:SR P Z ops cl lv W0 n K (k+1) rest ((d,True,.bool (decide (i=j))) :: σ) w)(hb:(Nat.beq (clOf cl k) 3&&Nat.blt d n)=true:=by exact rfl):SR P Z ops cl lv W0 n K k (⟨some d,.binOp .eql t x y u,ty,pos,after,none⟩::rest) σ w:=Zo hb (fun _=>Yxc (Ywa hx) (Ywa hy)) h
theorem Vvc{i:Nat}{vs:Array Value}(hx:opv σ x=some (True,.tuple vs))(hv:vs[i]? = some v)(h:SR P Z ops cl lv W0 n K (k+1) rest ((d,True,v) :: σ) w)(hb:(Nat.beq (clOf cl k) 3&&Nat.blt d n)=true:=by exact rfl):SR P Z ops cl lv W0 n K k (⟨some d,.extract x i,ty,pos,after,none⟩::rest) σ w:=Zo hb (fun _=>Xs (Ywa hx) hv) h
end
theorem Yq{t b o:Nat}(ht:Qr P t=true)(hx:opv σ x=some (True,.pointer (some ⟨b,o,none⟩)))(hc:w.cell? ⟨b,o,none⟩=some v)(h:SR P Z ops cl lv W0 n K (k+1) rest ((d,True,v) :: σ) w)(hb:(Nat.beq (clOf cl k) 0&&lvOf lv k&&Nat.blt d n)=true:=by exact rfl):SR P Z ops cl lv W0 n K k (⟨some d,.load t x,ty,pos,after,none⟩::rest) σ w:=Wea hb (Zt ht (Ywa hx) (fun _=>hc)) h
theorem Vf{t b o z:Nat}{l:List Value}(ht:Xma P t=some z)(hx:opv σ x=some (True,.pointer (some ⟨b,o,none⟩)))(hl:l.length=z)(hc:RowAt w b o l)(h:SR P Z ops cl lv W0 n K (k+1) rest ((d,True,.agg l.toArray) :: σ) w)(hb:(Nat.beq (clOf cl k) 0&&lvOf lv k&&Nat.blt d n)=true:=by exact rfl):SR P Z ops cl lv W0 n K k (⟨some d,.load t x,ty,pos,after,none⟩::rest) σ w:=Wea hb (Zy ht (Ywa hx) hl (fun _=>hc)) h
end
section
variable {P:Program} {n:Nat} {N T:Act→World→Prop} {X:List (Nat×(Act→World→Prop))} {σ:List Ent} {w:World}
theorem Wm{x:Operand}{b:Bool}{p q:Code}(hx:opv σ x=some (True,.bool b))(h1:b=true→SC P n p N X T σ w)(h2:b=false→SC P n q N X T σ w):SC P n (.cond x p q) N X T σ w:=Yta (Ywa hx) h1 h2
end
def KQ(P:Program)(n:Nat)(y:Code)(N:Act→World→Prop)(X:List (Nat×(Act→World→Prop)))(T:Act→World→Prop)(a:Act)(u:World):Prop:=∃ τ,Kn n τ a∧SC P n y N X T τ u
section
variable {P:Program} {n:Nat} {N T:Act→World→Prop} {X:List (Nat×(Act→World→Prop))} {σ:List Ent} {w:World}
theorem kq{y:Code}(h:SC P n y N X T σ w):∀ a,Kn n σ a→KQ P n y N X T a w:=fun a ha=>⟨σ,ha,h⟩
theorem Zj{x y:Code}(h:SC P n x (KQ P n y N X T) X T σ w):SC P n (.seq x y) N X T σ w:=.mk fun a ha=>by
 refine wp_seq (Code.wp_mono (fun e a w q=>?_) (h a ha))
 cases e with
 | normal=>obtain ⟨τ,hk,hs⟩:=q;exact hs a hk
 | _=>exact q
end
theorem Yb{a w w':World}{j:Nat}(h:G a w)(hg:w.grownBy w' (some j))(hj:a.heap.size≤j):G a w':=Jh h hg fun k hk=>by injection hk with hk;omega
theorem nw1{p:Prop}(h:(2:Nat)=1):p:=absurd h (by decide)
def clD(o:Oper):Nat:=match o.op with
 | .load ..=>0
 | .move .. | .assign .. | .pick .. | .nilCheck .. | .binOp .. | .unOp .. | .makeInterface .. | .makeFunc .. | .slice .. | .fieldAddr .. | .field .. | .indexAddr .. | .index .. | .extract .. | .build ..=>3
 | .call c=>match c.callee with
  | .builtin .len=>3
  | _=>2
 | _=>2
theorem Zm{P:Program}{n:Nat}{N T:Act→World→Prop}{X:List (Nat×(Act→World→Prop))}{σ:List Ent}{w:World}{id:Nat}{l:List Oper}(h:SR P NoP l (l.map clD) [] w n N 0 l σ w):SC P n (.region id l.toArray false) N X T σ w:=Wc _ h
section
variable {P:Program} {Z:List PanicEntry→Act→World→Prop} {ops:List Oper} {cl ms:List Nat} {row:RelX} {n:Nat} {K:Act→World→Prop} {m:Nat} {L:List Nat} {σ:List Ent} {w:World} {d:Nat} {op:Op} {ty:TypeId} {pos:String} {after:Array Edge} {v:Value}
theorem Wf(r:Nat)(hr:ops.toArray[r]? = some ⟨some d,op,ty,pos,after,none⟩)(hb:(L.contains r&&availB ms L r&&Nat.beq (clOf cl r) 0&&Nat.blt d n)=true)
  (hv:∀ w1,GX row w w1→Rd P n σ True w1 op ty v) (h:ST P Z ops cl ms row n K m (L.erase r) ((d,True,v) :: σ) w):ST P Z ops cl ms row n K (m+1) L σ w:=Vxf r hr hb rfl hv h
theorem Zx(r:Nat)(hr:ops.toArray[r]? = some ⟨some d,op,ty,pos,after,none⟩)(hb:(L.contains r&&availB ms L r&&Nat.beq (clOf cl r) 3&&Nat.blt d n)=true)
  (hv:∀ wb,Rd P n σ True wb op ty v) (h:ST P Z ops cl ms row n K m (L.erase r) ((d,True,v) :: σ) w):ST P Z ops cl ms row n K (m+1) L σ w:=Ylb r hr hb rfl hv h
end
theorem gdr{a w:World}(g:G a w):G a w.drew:=g.trans (G.drew _)
theorem knr{n:Nat}{σ:List Ent}{w:World}:∀ a,Kn n σ a→Kn n σ a∧w=w:=fun _ h=>⟨h,rfl⟩
section
variable {P:Program} {Z:List PanicEntry→Act→World→Prop} {ops:List Oper} {cl:List Nat} {lv:List Bool} {W0:World} {n:Nat} {K:Act→World→Prop} {k:Nat} {rest:List Oper} {σ:List Ent} {w:World} {d:Nat} {ty:TypeId} {pos:String} {after:Array Edge} {t:TypeId} {x y:Operand} {b o z:Nat} {e:TypeId} {u v:Value} {l vs:List Value}
theorem Vwc(hs:tySize P t=some 1)(hx:opv σ x=some (True,.pointer (some ⟨b,o,none⟩)))(hy:opv σ y=some (True,u))(hu:u.cells = #[v])(hB:Blk w b e l)
  (h:∀ w1,w.grownBy w1 (some b)→w1.heap.size=w.heap.size→Blk w1 b e (l.set o v)→SR P Z ops cl lv W0 n K (k+1) rest σ w1) (hb:Nat.beq (clOf cl k) 2=true:=by exact rfl) (hfit:Nat.blt o l.length=true:=by exact rfl) (h1:v.oneCell'=true:=by exact rfl) :
  SR P Z ops cl lv W0 n K k (⟨none,.store t x y,ty,pos,after,none⟩::rest) σ w:=Ym hb hs (Ywa hx) (Ywa hy) hu hB hfit h1 h
theorem Ymb(hs:tySize P t=some z)(hx:opv σ x=some (True,.pointer (some ⟨b,0,none⟩)))(hy:opv σ y=some (True,u))(hu:u.cells=vs.toArray)(hB:Blk w b e l)
  (h:∀ w1,w.grownBy w1 (some b)→w1.heap.size=w.heap.size→Blk w1 b e vs→SR P Z ops cl lv W0 n K (k+1) rest σ w1) (hb:Nat.beq (clOf cl k) 2=true:=by exact rfl) (hz:vs.length=z:=by exact rfl) (hfit:Nat.beq vs.length l.length=true:=by exact rfl) (h1:onesB vs=true:=by exact rfl) :
  SR P Z ops cl lv W0 n K k (⟨none,.store t x y,ty,pos,after,none⟩::rest) σ w:=Vd hb hs (Ywa hx) (Ywa hy) hu hz hB hfit h1 h
theorem Zba{ps:Array (Nat×Operand)}{vs:List (Nat×Value)}{pl:List (Nat×Nat)}{z:Value}{zl l:List Value}(hz:zeroOf P t=some z)(hp:Vj P t=some pl)(hx:Usa n σ True ps vs)(hzl:z.cells=zl.toArray)
  (hl:Uxc (fun i=>pl[i]?) zl vs=some l) (h:SR P Z ops cl lv W0 n K (k+1) rest ((d,True,.agg l.toArray) :: σ) w) (hb:(Nat.beq (clOf cl k) 3&&Nat.blt d n)=true:=by exact rfl) :
  SR P Z ops cl lv W0 n K k (⟨some d,.build t ps,ty,pos,after,none⟩::rest) σ w:=Zo hb (fun _=>Uz l hz hzl hp hx hl) h
theorem Xla{t e z by_:Nat}{x:Operand}{b:Option Addr}{m q:Nat}(ht:tyElem P t=some (e,z,by_))(hx:opv σ x=some (True,.slice b m q))(h:SR P Z ops cl lv W0 n K (k+1) rest ((d,True,.int .i64 m) :: σ) w)(hb:(Nat.beq (clOf cl k) 3&&Nat.blt d n)=true:=by exact rfl) :
  SR P Z ops cl lv W0 n K k (⟨some d,.call { callee:=.builtin .len,args:=#[x],argTypes:=#[t] },ty,pos,after,none⟩::rest) σ w:=Zo hb (fun _=>Vha ht (Ywa hx)) h
theorem Zfb{t e z by_:Nat}{b o m q:Nat}{g:IntKind}{i:Int}(ht:tyElem P t=some (e,z,by_))(hx:opv σ x=some (True,.slice (some ⟨b,o,none⟩) m q))(hy:opv σ y=some (True,.int g i))(hi:0≤i∧i<m)
  (h:SR P Z ops cl lv W0 n K (k+1) rest ((d,True,.pointer (some ⟨b,o+i.toNat*z,none⟩)) :: σ) w) (hb:(Nat.beq (clOf cl k) 3&&Nat.blt d n)=true:=by exact rfl):SR P Z ops cl lv W0 n K k (⟨some d,.indexAddr t x y,ty,pos,after,none⟩::rest) σ w:=Zo hb (fun _=>Qea ht (Ywa hx) (Ywa hy) fun _=>hi) h
theorem Qqa{t u:TypeId}{i j:Int}(hx:opv σ x=some (True,.int .i64 i))(hy:opv σ y=some (True,.int .i64 j))(hr : -9223372036854775808≤i+j∧i+j≤9223372036854775807)
  (h:SR P Z ops cl lv W0 n K (k+1) rest ((d,True,.int .i64 (i+j)) :: σ) w) (hb:(Nat.beq (clOf cl k) 3&&Nat.blt d n)=true:=by exact rfl):SR P Z ops cl lv W0 n K k (⟨some d,.binOp .add t x y u,ty,pos,after,none⟩::rest) σ w:=Zo hb (fun _=>Jia (Ywa hx) (Ywa hy) fun _=>hr) h
end
theorem Zza{a w w1:World}{b:Nat}{e:TypeId}{l:List Value}(h:New w w1 b e l)(g:a.heap.size≤w.heap.size):a.heap.size≤b:=by have:=h.at_;omega
/-! own blocks -/
def AllOb(w:World):List (Nat×TypeId×List Value)→Prop
 | []=>True
 | (b,e,l)::L=>Blk w b e l∧AllOb w L
def Obk(w:World)(L:List (Nat×TypeId×List Value)):Prop:=(L.map Prod.fst).Nodup∧AllOb w L
section
variable {w w':World} {L:List (Nat×TypeId×List Value)} {b:Nat} {e:TypeId} {l l':List Value} {x0 x1 x2 x3 x4 x5 x6 x7 x8 x9 x10 x11:Nat×TypeId×List Value}
theorem Xna(w:World):Obk w []:=⟨List.nodup_nil,trivial⟩
theorem Vzd:∀ {L:List (Nat×TypeId×List Value)} {i:Nat},AllOb w L→L[i]? = some (b,e,l)→Blk w b e l
 | [],i,_,h=>by simp at h
 | (b',e',l')::L,0,hA,h=>by injection h with h;injection h with h1 h2;injection h2 with h2 h3;subst h1 h2 h3;exact hA.1
 | (b',e',l')::L,i+1,hA,h=>Vzd (L:=L) (i:=i) hA.2 h
theorem Obk.g(E:Obk w L)(i:Nat)(h:L[i]? = some (b,e,l)):Blk w b e l:=Vzd E.2 h
theorem Uma{w w':World}:∀ {L:List (Nat×TypeId×List Value)},AllOb w L→(∀ b e l,(b,e,l)∈L→Blk w b e l→Blk w' b e l)→AllOb w' L
 | [],_,_=>trivial
 | (b,e,l)::L,h,f=>⟨f b e l List.mem_cons_self h.1,Uma h.2 fun b e l hm hB=>f b e l (List.mem_cons_of_mem _ hm) hB⟩
theorem Obk.grow(E:Obk w L)(g:G w w'):Obk w' L:=⟨E.1,Uma E.2 fun _ _ _ _ h=>h.grow g⟩
theorem Obk.dr(E:Obk w L):Obk w.drew L:=E.grow (G.drew _)
theorem Zvd{w:World}:∀ {L:List (Nat×TypeId×List Value)},AllOb w L→∀ b∈L.map Prod.fst,b<w.heap.size
 | [],_,b,hm=>by cases hm
 | (b',e,l)::L,h,b,hm=>by
  rcases List.mem_cons.1 hm with q|q;subst q;exact h.1.lt;exact Zvd h.2 b q
theorem Obk.ltm(E:Obk w L){X:List Nat}(h:∀ j∈X,j∈L.map Prod.fst):∀ j∈X,j<w.heap.size:=fun j hj=>Zvd E.2 j (h j hj)
theorem Obk.new(E:Obk w L)(N:New w w' b e l):Obk w' ((b,e,l)::L):=by
 refine ⟨List.nodup_cons.2 ⟨fun hm=>?_,E.1⟩,N.blk,(E.grow N.g).2⟩;have:=Zvd E.2 b hm;have:=N.at_;omega
theorem Obk.keep(E:Obk w L){row:Option Nat}(hg:w.grownBy w' row)(h:∀ b∈L.map Prod.fst,some b≠row):Obk w' L :=
 ⟨E.1,Uma E.2 fun b e l hm hB=>hB.keep hg (h b (List.mem_map_of_mem (f:=Prod.fst) hm))⟩
theorem Obk.keepX(E:Obk w L){row:Option Nat}{X:List Nat}(hg:w.grownBy w' row)(hn:∀ {b},b∈X→some b≠row)(h:∀ j∈L.map Prod.fst,j∈X):Obk w' L:=E.keep hg fun b hb=>hn (h b hb)
theorem Wab{w:World}{b b':Nat}{e e':TypeId}{l l':List Value}(h:Blk w b e l)(h':Blk w b' e' l')(he:Nat.beq e e'=false):b≠b':=fun q=>by
 subst q;unfold Blk at h h';rw [h] at h';injection h' with h';injection h' with _ h';subst h';simp at he
theorem Obk.keepT(E:Obk w L){j:Nat}{e':TypeId}{xs:List Value}(hg:w.grownBy w' (some j))(hB:Blk w j e' xs)(ht:(L.all fun x=>!Nat.beq x.2.1 e')=true):Obk w' L :=
 ⟨E.1,Uma E.2 fun b e l hm h=>h.keep hg fun q=>by
 injection q with q;have:=List.all_eq_true.1 ht _ hm;exact Wab h hB (by simpa using this) q⟩
theorem Obk.keepN(E:Obk w L){base z m:Nat}{e':TypeId}{v:Value}{xs:List Value}(hO:w.ownsRow base e' z v m xs)(hg:w.grownBy w' v.ownBlock)(ht:(L.all fun x=>!Nat.beq e' x.2.1)=true):Obk w' L :=
 ⟨E.1,Uma E.2 fun b e l hm h=>h.keep hg fun q=>by
 have hne:=List.all_eq_true.1 ht _ hm;rcases hO.2 with ⟨h1,_⟩|⟨g,cap,cur,h1,h2,h3,_⟩;rw [h1] at q;cases q;rw [h1] at q;have:b=g:=by injection q
 subst this;unfold Blk at h;rw [h] at h3;injection h3 with h3;injection h3 with _ h3;subst h3;simp at hne⟩
theorem Uad{w w':World}{j:Nat}(hg:w.grownBy w' (some j)):∀ {L:List (Nat×TypeId×List Value)},j∉L.map Prod.fst→AllOb w L→AllOb w' L
 | [],_,_=>trivial
 | (b,e,l)::L,hn,h=>⟨h.1.keep hg fun q=>by injection q with q;subst q;exact hn List.mem_cons_self,Uad hg (fun q=>hn (List.mem_cons_of_mem _ q)) h.2⟩
theorem Obk.tl{x:Nat×TypeId×List Value}(E:Obk w (x::L)):Obk w L:=⟨(List.nodup_cons.1 E.1).2,E.2.2⟩
theorem Obk.hd(E:Obk w ((b,e,l)::L)):b∉L.map Prod.fst:=(List.nodup_cons.1 E.1).1
theorem Obk.s0(E:Obk w ((b,e,l)::L))(hg:w.grownBy w' (some b))(hB:Blk w' b e l'):Obk w' ((b,e,l')::L):=⟨E.1,hB,Uad hg E.hd E.2.2⟩
theorem Obk.up{x:Nat×TypeId×List Value}(E:Obk w (x::L))(hg:w.grownBy w' (some b))(hm:b∈L.map Prod.fst){L':List (Nat×TypeId×List Value)}(h:Obk w' L')(hL:L'.map Prod.fst=L.map Prod.fst):Obk w' (x::L'):=by
 refine ⟨?_,?_,h.2⟩;show (x.1::L'.map Prod.fst).Nodup;rw [hL];exact E.1;obtain ⟨b',e',l''⟩:=x;exact E.2.1.keep hg fun q=>by injection q with q;subst q;exact E.hd hm
theorem Obk.s1(E:Obk w (x0::(b,e,l)::L))(hg:w.grownBy w' (some b))(hB:Blk w' b e l'):Obk w' (x0::(b,e,l')::L):=E.up hg (by simp) (E.tl.s0 hg hB) rfl
theorem Obk.s2(E:Obk w (x0::x1::(b,e,l)::L))(hg:w.grownBy w' (some b))(hB:Blk w' b e l'):Obk w' (x0::x1::(b,e,l')::L):=E.up hg (by simp) (E.tl.s1 hg hB) rfl
theorem Obk.s3(E:Obk w (x0::x1::x2::(b,e,l)::L))(hg:w.grownBy w' (some b))(hB:Blk w' b e l'):Obk w' (x0::x1::x2::(b,e,l')::L):=E.up hg (by simp) (E.tl.s2 hg hB) rfl
theorem Obk.s4(E:Obk w (x0::x1::x2::x3::(b,e,l)::L))(hg:w.grownBy w' (some b))(hB:Blk w' b e l'):Obk w' (x0::x1::x2::x3::(b,e,l')::L):=E.up hg (by simp) (E.tl.s3 hg hB) rfl
theorem Obk.s5(E:Obk w (x0::x1::x2::x3::x4::(b,e,l)::L))(hg:w.grownBy w' (some b))(hB:Blk w' b e l'):Obk w' (x0::x1::x2::x3::x4::(b,e,l')::L):=E.up hg (by simp) (E.tl.s4 hg hB) rfl
theorem Obk.s6(E:Obk w (x0::x1::x2::x3::x4::x5::(b,e,l)::L))(hg:w.grownBy w' (some b))(hB:Blk w' b e l'):Obk w' (x0::x1::x2::x3::x4::x5::(b,e,l')::L):=E.up hg (by simp) (E.tl.s5 hg hB) rfl
theorem Obk.s7(E:Obk w (x0::x1::x2::x3::x4::x5::x6::(b,e,l)::L))(hg:w.grownBy w' (some b))(hB:Blk w' b e l'):Obk w' (x0::x1::x2::x3::x4::x5::x6::(b,e,l')::L):=E.up hg (by simp) (E.tl.s6 hg hB) rfl
theorem Obk.s8(E:Obk w (x0::x1::x2::x3::x4::x5::x6::x7::(b,e,l)::L))(hg:w.grownBy w' (some b))(hB:Blk w' b e l'):Obk w' (x0::x1::x2::x3::x4::x5::x6::x7::(b,e,l')::L):=E.up hg (by simp) (E.tl.s7 hg hB) rfl
theorem Obk.s9(E:Obk w (x0::x1::x2::x3::x4::x5::x6::x7::x8::(b,e,l)::L))(hg:w.grownBy w' (some b))(hB:Blk w' b e l'):Obk w' (x0::x1::x2::x3::x4::x5::x6::x7::x8::(b,e,l')::L):=E.up hg (by simp) (E.tl.s8 hg hB) rfl
theorem Obk.s10(E:Obk w (x0::x1::x2::x3::x4::x5::x6::x7::x8::x9::(b,e,l)::L))(hg:w.grownBy w' (some b))(hB:Blk w' b e l'):Obk w' (x0::x1::x2::x3::x4::x5::x6::x7::x8::x9::(b,e,l')::L):=E.up hg (by simp) (E.tl.s9 hg hB) rfl
theorem Obk.s11(E:Obk w (x0::x1::x2::x3::x4::x5::x6::x7::x8::x9::x10::(b,e,l)::L))(hg:w.grownBy w' (some b))(hB:Blk w' b e l'):Obk w' (x0::x1::x2::x3::x4::x5::x6::x7::x8::x9::x10::(b,e,l')::L):=E.up hg (by simp) (E.tl.s10 hg hB) rfl
theorem Obk.s12(E:Obk w (x0::x1::x2::x3::x4::x5::x6::x7::x8::x9::x10::x11::(b,e,l)::L))(hg:w.grownBy w' (some b))(hB:Blk w' b e l'):Obk w' (x0::x1::x2::x3::x4::x5::x6::x7::x8::x9::x10::x11::(b,e,l')::L):=E.up hg (by simp) (E.tl.s11 hg hB) rfl
theorem Obk.r0(E:Obk w ((b,e,l)::L))(hB:Blk w b e l'):Obk w ((b,e,l')::L):=⟨E.1,hB,E.2.2⟩
theorem Obk.r1(E:Obk w (x0::(b,e,l)::L))(hB:Blk w b e l'):Obk w (x0::(b,e,l')::L):=⟨E.1,E.2.1,(E.tl.r0 hB).2⟩
theorem Obk.r2(E:Obk w (x0::x1::(b,e,l)::L))(hB:Blk w b e l'):Obk w (x0::x1::(b,e,l')::L):=⟨E.1,E.2.1,(E.tl.r1 hB).2⟩
theorem Obk.r3(E:Obk w (x0::x1::x2::(b,e,l)::L))(hB:Blk w b e l'):Obk w (x0::x1::x2::(b,e,l')::L):=⟨E.1,E.2.1,(E.tl.r2 hB).2⟩
theorem Obk.r4(E:Obk w (x0::x1::x2::x3::(b,e,l)::L))(hB:Blk w b e l'):Obk w (x0::x1::x2::x3::(b,e,l')::L):=⟨E.1,E.2.1,(E.tl.r3 hB).2⟩
theorem Obk.r5(E:Obk w (x0::x1::x2::x3::x4::(b,e,l)::L))(hB:Blk w b e l'):Obk w (x0::x1::x2::x3::x4::(b,e,l')::L):=⟨E.1,E.2.1,(E.tl.r4 hB).2⟩
theorem Obk.g0(E:Obk w ((b,e,l)::L)):Blk w b e l:=E.2.1
theorem Obk.g1(E:Obk w (x0::(b,e,l)::L)):Blk w b e l:=E.tl.g0
theorem Obk.g2(E:Obk w (x0::x1::(b,e,l)::L)):Blk w b e l:=E.tl.g1
theorem Obk.g3(E:Obk w (x0::x1::x2::(b,e,l)::L)):Blk w b e l:=E.tl.g2
theorem Obk.g4(E:Obk w (x0::x1::x2::x3::(b,e,l)::L)):Blk w b e l:=E.tl.g3
theorem Obk.g5(E:Obk w (x0::x1::x2::x3::x4::(b,e,l)::L)):Blk w b e l:=E.tl.g4
theorem Obk.g6(E:Obk w (x0::x1::x2::x3::x4::x5::(b,e,l)::L)):Blk w b e l:=E.tl.g5
theorem Obk.g7(E:Obk w (x0::x1::x2::x3::x4::x5::x6::(b,e,l)::L)):Blk w b e l:=E.tl.g6
theorem Obk.g8(E:Obk w (x0::x1::x2::x3::x4::x5::x6::x7::(b,e,l)::L)):Blk w b e l:=E.tl.g7
theorem Obk.g9(E:Obk w (x0::x1::x2::x3::x4::x5::x6::x7::x8::(b,e,l)::L)):Blk w b e l:=E.tl.g8
theorem Obk.g10(E:Obk w (x0::x1::x2::x3::x4::x5::x6::x7::x8::x9::(b,e,l)::L)):Blk w b e l:=E.tl.g9
theorem Obk.g11(E:Obk w (x0::x1::x2::x3::x4::x5::x6::x7::x8::x9::x10::(b,e,l)::L)):Blk w b e l:=E.tl.g10
theorem Obk.g12(E:Obk w (x0::x1::x2::x3::x4::x5::x6::x7::x8::x9::x10::x11::(b,e,l)::L)):Blk w b e l:=E.tl.g11
def selB{α:Type}:List Bool→List α→List α
 | true::m,x::L=>x::selB m L
 | false::m,_::L=>selB m L
 | _,_=>[]
theorem Xzc{α:Type}:∀ (m:List Bool) (L:List α),(selB m L).Sublist L
 | [],L=>List.nil_sublist L
 | true::m,[]=>List.Sublist.slnil
 | false::m,[]=>List.Sublist.slnil
 | true::m,x::L=>(Xzc m L).cons_cons x
 | false::m,x::L=>(Xzc m L).cons x
theorem Xcf{w:World}:∀ {L L':List (Nat×TypeId×List Value)},AllOb w L→L'.Sublist L→AllOb w L':=fun {L L'} h hs=>by
 induction hs with
 | slnil=>trivial
 | cons x hs ih=>obtain ⟨b,e,l⟩:=x;exact ih h.2
 | cons_cons x hs ih=>obtain ⟨b,e,l⟩:=x;exact ⟨h.1,ih h.2⟩
theorem Obk.sel(E:Obk w L)(m:List Bool):Obk w (selB m L):=⟨E.1.sublist ((Xzc m L).map _),Xcf E.2 (Xzc m L)⟩
theorem Zha{L0:List (Nat×TypeId×List Value)}(hn:(L0.map Prod.fst).Nodup)(hA:AllOb w L)(h:L.map Prod.fst=L0.map Prod.fst):Obk w L:=⟨h▸hn,hA⟩
theorem Obk.ne(E:Obk w L){b b':Nat}{e e':TypeId}{l l':List Value}(i j:Nat)(hi:L[i]? = some (b,e,l))(hj:L[j]? = some (b',e',l'))(hij:Nat.beq i j=false):b≠b':=fun q=>by
 have h:=E.1;have h1:(L.map Prod.fst)[i]? = some b:=by rw [List.getElem?_map,hi];rfl
 have h2:(L.map Prod.fst)[j]? = some b':=by rw [List.getElem?_map,hj];rfl
 obtain ⟨hi',e1⟩:=List.getElem?_eq_some_iff.1 h1;obtain ⟨hj',e2⟩:=List.getElem?_eq_some_iff.1 h2;have hp:=List.pairwise_iff_getElem.1 h;rcases Nat.lt_trichotomy i j with c|c|c;exact hp i j hi' hj' c (e1.trans (q.trans e2.symm));subst c;simp at hij;exact hp j i hj' hi' c (e2.trans (q.symm.trans e1.symm))
end
def nestFs(P:Program):Nat→List Field→Option (List (Option TypeId×List Nat))
 | _,[]=>some []
 | k,f::fs=>if Nat.beq f.offset k&&f.name != "_" then match Vka P f.type with
   | some a=>(nestFs P (k+1) fs).map fun r=>(none,[a])::r
   | none=>match Xfa P f.type,Xma P f.type with
    | some ks,some z=>if Nat.beq z ks.length then (nestFs P (k+ks.length) fs).map fun r=>(some f.type,ks)::r else none
    | _,_=>none
  else none
def Uoe(P:Program)(t:TypeId):Option (List (Option TypeId×List Nat)):=match P.underlying t with
 | some (.struct fs)=>if P.stoodInHeld t=false∧P.eqGuardType P.depth t=false then nestFs P 0 fs.toList else none
 | _=>none
def eqN:List (Option TypeId×List Nat)→List Value→List Value→Option Bool
 | [],[],[]=>some true
 | [],_,_=>none
 | (_,ks)::r,l,l'=>match eqL ks (l.take ks.length) (l'.take ks.length) with
  | some b=>match eqN r (l.drop ks.length) (l'.drop ks.length) with
   | some c=>some (b&&c)
   | none=>none
  | none=>none
theorem Qtd:∀ {ks:List Nat} {l l':List Value} {b:Bool},eqL ks l l'=some b→l.length=ks.length∧l'.length=ks.length
 | [],l,l',b,h=>by
  unfold eqL at h;split at h <;> simp_all
 | k::ks,l,l',b,h=>by
  obtain ⟨u,u',r,r',b1,b2,rfl,rfl,_,e2,_⟩:=Ype h;have:=Qtd e2;simp [this.1,this.2]
theorem Vzf{P:Program}{t:TypeId}{z:Nat}(ht:Xma P t=some z){cs:Array Value}{o:Nat}(w:World):(part t cs o).run P w = .ok (.agg (cs.extract o (o+z))) w:=by
 have:(isAgg t).run P w = .ok true w∧(sizeOf t).run P w = .ok z w:=by
  unfold Xma at ht;split at ht;rename_i fs i hs hi;injection ht with ht;constructor;simp only [isAgg,Sem.run_bind,run_underlying hs,Result.andThen_ok];rfl;simp [sizeOf,typeInfo,hi,ht];rename_i fs m i hs hi;injection ht with ht;constructor;simp only [isAgg,Sem.run_bind,run_underlying hs,Result.andThen_ok];rfl;simp [sizeOf,typeInfo,hi,ht];cases ht
 simp [part,this.1,this.2]
theorem Yue(pre l:List Value)(n:Nat):((pre++l).toArray.extract pre.length (pre.length+n))=(l.take n).toArray:=by
 simp [List.take_add]
theorem Xdf{P:Program}{t:TypeId}{ks:List Nat}(ht:Xfa P t=some ks){l l':List Value}{b:Bool}(he:eqL ks l l'=some b)(d:Nat)(w:World):(Op.equalIn (d+2) t (.agg l.toArray) (.agg l'.toArray)).run P w = .ok b w:=by
 unfold Xfa at ht;split at ht;rename_i fs hfs;split at ht;rename_i hk;have hfo:P.fieldsOf t=fs:=by simp [Program.fieldsOf,hfs]
 have k2:=run_equalIn_struct w (d+1) t l.toArray l'.toArray (by rw [hfo];exact hfs) hk.1;have k3:=Unb d fs.toList ks 0 l l' [] [] b ht rfl rfl he w;simp only [List.nil_append] at k3;rw [hfo,k3] at k2;exact k2;cases ht;cases ht
theorem Zwd{P:Program}(d:Nat):∀ (fs:List Field) (ks:List (Option TypeId×List Nat)) (k:Nat) (l l':List Value) (pre pre':List Value) (b:Bool),nestFs P k fs=some ks→pre.length=k→pre'.length=k→eqN ks l l'=some b→
  ∀ w,(Op.eqFields (d+2) (pre++l).toArray (pre'++l').toArray fs).run P w = .ok b w
 | [],ks,k,l,l',pre,pre',b,hf,h1,h2,he,w=>by
  injection hf with hf;subst hf;unfold eqN at he;split at he <;> simp_all [Op.eqFields]
 | f::fs,ks,k,l,l',pre,pre',b,hf,h1,h2,he,w=>by
  unfold nestFs at hf;split at hf;rename_i hc;simp only [Bool.and_eq_true,bne_iff_ne,ne_eq] at hc;have hc:=And.intro (Nat.eq_of_beq_eq_true hc.1) hc.2;split at hf;rename_i a ha;obtain ⟨r,hr,rfl⟩:=Option.map_eq_some_iff.1 hf;unfold eqN at he;split at he;rename_i b1 e1;split at he;rename_i b2 e2;injection he with he;subst he;have hl:=Qtd e1;simp only [List.length_cons,List.length_nil,Nat.zero_add] at e1 e2 hl
  match l,l',hl with
  | u::l,u'::l',_ =>
   simp only [List.take_succ_cons,List.take_zero,List.drop_succ_cons,List.drop_zero] at e1 e2;have ho:=Xxc ha;have g1:(pre++u::l).toArray[f.offset]? = some u:=by simp [hc.1,← h1]
   have g2:(pre'++u'::l').toArray[f.offset]? = some u':=by simp [hc.1,← h2]
   have ih:=Zwd d fs r (k+1) l l' (pre++[u]) (pre'++[u']) b2 hr (by simp [h1]) (by simp [h2]) e2 w;rw [List.append_assoc,List.append_assoc,List.singleton_append,List.singleton_append] at ih;simp only [Op.eqFields,if_pos hc.2,Sem.run_bind,Jka ho g1,Jka ho g2,Result.andThen_ok,Vyd (d:=d+1) ha e1];cases b1;simp;simpa using ih
  cases he;cases he;split at hf;rename_i qs z hq hz;split at hf;rename_i hzl;have hzl:=Nat.eq_of_beq_eq_true hzl;obtain ⟨r,hr,rfl⟩:=Option.map_eq_some_iff.1 hf;unfold eqN at he;split at he;rename_i b1 e1;split at he;rename_i b2 e2;injection he with he;subst he;have hl:=Qtd e1;have ih:=Zwd d fs r (k+qs.length) (l.drop qs.length) (l'.drop qs.length) (pre++l.take qs.length) (pre'++l'.take qs.length) b2 hr (by rw [List.length_append,h1,hl.1]) (by rw [List.length_append,h2,hl.2]) e2 w;rw [List.append_assoc,List.append_assoc,List.take_append_drop,List.take_append_drop] at ih;have q1:(pre++l).toArray.extract f.offset (f.offset+z)=(l.take qs.length).toArray:=by rw [hc.1,hzl,← h1];exact Yue pre l _
  have q2:(pre'++l').toArray.extract f.offset (f.offset+z)=(l'.take qs.length).toArray:=by rw [hc.1,hzl,← h2];exact Yue pre' l' _
  simp only [Op.eqFields,if_pos hc.2,Sem.run_bind,Vzf hz,q1,q2,Result.andThen_ok,Xdf hq e1 d w];cases b1;simp;simpa using ih;cases he;cases he;cases hf;cases hf;cases hf
section
variable {P:Program} {n:Nat} {σ:List Ent} {c:Prop} {wb:World} {ty:TypeId} {v:Value}
theorem Xug{t u:TypeId}{x y:Operand}{ks:List (Option TypeId×List Nat)}{l l':List Value}{b:Bool}(ht:Uoe P t=some ks)(h:Ev n σ c x (.agg l.toArray))(h':Ev n σ c y (.agg l'.toArray))(he:eqN ks l l'=some b):Rd P n σ c wb (.binOp .eql t x y u) ty (.bool b):=.mk fun d pos after gd a ha hc w1 _=>by
 unfold Uoe at ht;split at ht;rename_i fs hfs;split at ht;rename_i hk;have hfo:P.fieldsOf t=fs:=by simp [Program.fieldsOf,hfs]
 have k2:=run_equalIn_struct w1 9999 t l.toArray l'.toArray (by rw [hfo];exact hfs) hk.1;have k3:=Zwd 9997 fs.toList ks 0 l l' [] [] b ht rfl rfl he w1;simp only [List.nil_append] at k3;rw [hfo,k3] at k2;simp [execOp,h a ha hc,h' a ha hc,run_eqGuard_agg w1 .eql t x y l.toArray l'.toArray hk.2,run_eql_struct,k2];cases ht;cases ht
end
end Go.Rk
namespace Go.Rk
open Go.Proofs
open Go
@[reducible] noncomputable def PP:Program:=Tryz.prog
theorem mix:PP.follows .mixedOrders=true:=by kernel_rfl
@[reducible] def Yve:Nat:=3
@[reducible] def Qud:Nat:=4
@[reducible] def Qvd:Nat:=5
@[reducible] def Yzc:Nat:=6
theorem Uqb:PP.funcs[6]? = some Tryz.f6:=Tryz.func6
@[reducible] def Yke:Nat:=7
@[reducible] def Zfc:Nat:=8
theorem Vhb:PP.funcs[8]? = some Tryz.f8:=Tryz.func8
@[reducible] def Wac:Nat:=9
theorem Wbc:goFn PP 9=true:=by kernel_rfl
theorem Zxd:PP.funcs[9]? = some Tryz.f9:=Tryz.func9
@[reducible] def Vxc:Nat:=10
theorem Xac:PP.funcs[10]? = some Tryz.f10:=Tryz.func10
@[reducible] def Zef:Nat:=11
@[reducible] def Wcc:Nat:=12
theorem Zgc:PP.funcs[12]? = some Tryz.f12:=Tryz.func12
@[reducible] def Qqg:Nat:=13
@[reducible] def Xlg:Nat:=14
@[reducible] def Uge:Nat:=15
@[reducible] def Zhc:Nat:=16
theorem Vib:PP.funcs[16]? = some Tryz.f16:=Tryz.func16
@[reducible] def Vkf:Nat:=17
@[reducible] def Xef:Nat:=18
@[reducible] def Zic:Nat:=19
theorem Zjc:goFn PP 19=true:=by kernel_rfl
theorem Vjb:PP.funcs[19]? = some Tryz.f19:=Tryz.func19
@[reducible] def Vlf:Nat:=20
@[reducible] def Qrg:Nat:=21
@[reducible] def Ywe:Nat:=22
theorem Wsd:PP.funcs[22]? = some Tryz.f22:=Tryz.func22
@[reducible] def Zyd:Nat:=23
theorem Upe:goFn PP 23=true:=by kernel_rfl
theorem Qwd:PP.funcs[23]? = some Tryz.f23:=Tryz.func23
@[reducible] def Wtd:Nat:=24
theorem Qjc:PP.funcs[24]? = some Tryz.f24:=Tryz.func24
@[reducible] def Wdc:Nat:=25
theorem Zzd:PP.funcs[25]? = some Tryz.f25:=Tryz.func25
@[reducible] def Qxd:Nat:=26
theorem Qyd:goFn PP 26=true:=by kernel_rfl
theorem Yad:PP.funcs[26]? = some Tryz.f26:=Tryz.func26
@[reducible] def Qzd:Nat:=27
theorem Ybd:PP.funcs[27]? = some Tryz.f27:=Tryz.func27
@[reducible] def Uqe:Nat:=28
theorem Jad:PP.funcs[28]? = some Tryz.f28:=Tryz.func28
@[reducible] def Zkc:Nat:=29
theorem Vkb:PP.funcs[29]? = some Tryz.f29:=Tryz.func29
@[reducible] def Qkc:Nat:=30
theorem Wec:PP.funcs[30]? = some Tryz.f30:=Tryz.func30
@[reducible] def Qka:Nat:=31
theorem Zlc:goFn PP 31=true:=by kernel_rfl
theorem Vlb:PP.funcs[31]? = some Tryz.f31:=Tryz.func31
@[reducible] def Yxe:Nat:=32
theorem Wud:PP.funcs[32]? = some Tryz.f32:=Tryz.func32
@[reducible] def Qlc:Nat:=33
theorem Wfc:PP.funcs[33]? = some Tryz.f33:=Tryz.func33
@[reducible] def Ure:Nat:=34
theorem Jbd:PP.funcs[34]? = some Tryz.f34:=Tryz.func34
@[reducible] def Xff:Nat:=35
theorem Ynb:goFn PP 35=true:=by kernel_rfl
theorem Yye:PP.funcs[35]? = some Tryz.f35:=Tryz.func35
@[reducible] def Uda:Nat:=36
theorem Vmb:goFn PP 36=true:=by kernel_rfl
theorem Yob:PP.funcs[36]? = some Tryz.f36:=Tryz.func36
@[reducible] def Uea:Nat:=37
theorem Vnb:goFn PP 37=true:=by kernel_rfl
theorem Ypb:PP.funcs[37]? = some Tryz.f37:=Tryz.func37
@[reducible] def Xmg:Nat:=38
@[reducible] def Yze:Nat:=39
theorem Wvd:PP.funcs[39]? = some Tryz.f39:=Tryz.func39
@[reducible] def Xbc:Nat:=40
theorem Urb:PP.funcs[40]? = some Tryz.f40:=Tryz.func40
@[reducible] def Xcc:Nat:=41
theorem Usb:PP.funcs[41]? = some Tryz.f41:=Tryz.func41
@[reducible] def Utb:Nat:=42
theorem Wbb:PP.funcs[42]? = some Tryz.f42:=Tryz.func42
@[reducible] def Jcd:Nat:=43
theorem Jdd:goFn PP 43=true:=by kernel_rfl
theorem Ycd:PP.funcs[43]? = some Tryz.f43:=Tryz.func43
@[reducible] def Jed:Nat:=44
theorem Ydd:PP.funcs[44]? = some Tryz.f44:=Tryz.func44
@[reducible] def Zmc:Nat:=45
theorem Vob:PP.funcs[45]? = some Tryz.f45:=Tryz.func45
@[reducible] def Jfd:Nat:=46
theorem Yed:PP.funcs[46]? = some Tryz.f46:=Tryz.func46
@[reducible] def Uyc:Nat:=47
theorem Wwd:PP.funcs[47]? = some Tryz.f47:=Tryz.func47
@[reducible] def Yab:Nat:=48
theorem Jla:PP.funcs[48]? = some Tryz.f48:=Tryz.func48
@[reducible] def Wcb:Nat:=49
theorem Ybb:PP.funcs[49]? = some Tryz.f49:=Tryz.func49
@[reducible] def Wya:Nat:=50
theorem Zgb:PP.funcs[50]? = some Tryz.f50:=Tryz.func50
@[reducible] def Xae:Nat:=51
theorem Wxd:PP.funcs[51]? = some Tryz.f51:=Tryz.func51
@[reducible] def Xbe:Nat:=52
theorem Xce:goFn PP 52=true:=by kernel_rfl
theorem Wyd:PP.funcs[52]? = some Tryz.f52:=Tryz.func52
@[reducible] def Vla:Nat:=53
theorem Vma:goFn PP 53=true:=by kernel_rfl
theorem Znc:PP.funcs[53]? = some Tryz.f53:=Tryz.func53
@[reducible] def Wzd:Nat:=54
theorem Qmc:PP.funcs[54]? = some Tryz.f54:=Tryz.func54
@[reducible] def Vad:Nat:=55
theorem Yfc:goFn PP 55=true:=by kernel_rfl
theorem Qnc:PP.funcs[55]? = some Tryz.f55:=Tryz.func55
@[reducible] def Use:Nat:=56
theorem Jgd:PP.funcs[56]? = some Tryz.f56:=Tryz.func56
@[reducible] def Xdc:Nat:=57
theorem Uub:PP.funcs[57]? = some Tryz.f57:=Tryz.func57
@[reducible] def Xec:Nat:=58
theorem Uvb:PP.funcs[58]? = some Tryz.f58:=Tryz.func58
@[reducible] def Vyc:Nat:=59
theorem Xfc:PP.funcs[59]? = some Tryz.f59:=Tryz.func59
@[reducible] def Zoc:Nat:=60
theorem Vpb:PP.funcs[60]? = some Tryz.f60:=Tryz.func60
@[reducible] def Yqb:Nat:=61
theorem Zhb:PP.funcs[61]? = some Tryz.f61:=Tryz.func61
@[reducible] def Xgc:Nat:=62
theorem Uwb:PP.funcs[62]? = some Tryz.f62:=Tryz.func62
@[reducible] def Wgc:Nat:=63
theorem Zpc:PP.funcs[63]? = some Tryz.f63:=Tryz.func63
@[reducible] def Uxb:Nat:=64
theorem Wdb:PP.funcs[64]? = some Tryz.f64:=Tryz.func64
@[reducible] def Qla:Nat:=65
theorem Vqb:PP.funcs[65]? = some Tryz.f65:=Tryz.func65
@[reducible] def Vbd:Nat:=66
theorem Qoc:PP.funcs[66]? = some Tryz.f66:=Tryz.func66
@[reducible] def Jhd:Nat:=67
theorem Yfd:PP.funcs[67]? = some Tryz.f67:=Tryz.func67
@[reducible] def Web:Nat:=68
theorem Ycb:PP.funcs[68]? = some Tryz.f68:=Tryz.func68
@[reducible] def Uyb:Nat:=69
theorem Wfb:PP.funcs[69]? = some Tryz.f69:=Tryz.func69
@[reducible] def Jq:Nat:=70
theorem Wgb:PP.funcs[70]? = some Tryz.f70:=Tryz.func70
@[reducible] def Xde:Nat:=71
theorem Uzb:goFn PP 71=true:=by kernel_rfl
theorem Vcd:PP.funcs[71]? = some Tryz.f71:=Tryz.func71
@[reducible] def Jid:Nat:=72
theorem Ygd:PP.funcs[72]? = some Tryz.f72:=Tryz.func72
@[reducible] def Xee:Nat:=73
theorem Zob:goFn PP 73=true:=by kernel_rfl
theorem Vdd:PP.funcs[73]? = some Tryz.f73:=Tryz.func73
@[reducible] def Qpc:Nat:=74
theorem Whc:PP.funcs[74]? = some Tryz.f74:=Tryz.func74
@[reducible] def Xfe:Nat:=75
theorem Xge:goFn PP 75=true:=by kernel_rfl
theorem Ved:PP.funcs[75]? = some Tryz.f75:=Tryz.func75
@[reducible] def Xhe:Nat:=76
theorem Xie:goFn PP 76=true:=by kernel_rfl
theorem Vfd:PP.funcs[76]? = some Tryz.f76:=Tryz.func76
@[reducible] def Qab:Nat:=77
theorem Whb:PP.funcs[77]? = some Tryz.f77:=Tryz.func77
@[reducible] def Qbb:Nat:=78
theorem Wib:PP.funcs[78]? = some Tryz.f78:=Tryz.func78
@[reducible] def Qma:Nat:=79
theorem Vrb:PP.funcs[79]? = some Tryz.f79:=Tryz.func79
@[reducible] def Vgd:Nat:=80
theorem Vhd:goFn PP 80=true:=by kernel_rfl
theorem Qqc:PP.funcs[80]? = some Tryz.f80:=Tryz.func80
@[reducible] def Jjd:Nat:=81
theorem Jkd:goFn PP 81=true:=by kernel_rfl
theorem Yhd:PP.funcs[81]? = some Tryz.f81:=Tryz.func81
@[reducible] def Vid:Nat:=82
theorem Ydb:goFn PP 82=true:=by kernel_rfl
theorem Qrc:PP.funcs[82]? = some Tryz.f82:=Tryz.func82
@[reducible] def Qcb:Nat:=83
theorem Yga:goFn PP 83=true:=by kernel_rfl
theorem Vzc:PP.funcs[83]? = some Tryz.f83:=Tryz.func83
@[reducible] def Vjd:Nat:=84
theorem Qsc:PP.funcs[84]? = some Tryz.f84:=Tryz.func84
@[reducible] def Jld:Nat:=85
theorem Jmd:goFn PP 85=true:=by kernel_rfl
theorem Yid:PP.funcs[85]? = some Tryz.f85:=Tryz.func85
@[reducible] def Yba:Nat:=86
theorem Vsb:PP.funcs[86]? = some Tryz.f86:=Tryz.func86
@[reducible] def Xje:Nat:=87
theorem Vkd:PP.funcs[87]? = some Tryz.f87:=Tryz.func87
@[reducible] def Ygc:Nat:=88
theorem Wfa:goFn PP 88=true:=by kernel_rfl
theorem Vgb:PP.funcs[88]? = some Tryz.f88:=Tryz.func88
@[reducible] def Yjd:Nat:=89
theorem Ykd:goFn PP 89=true:=by kernel_rfl
theorem Uac:PP.funcs[89]? = some Tryz.f89:=Tryz.func89
@[reducible] def Wic:Nat:=90
theorem Qra:goFn PP 90=true:=by kernel_rfl
theorem Qdb:PP.funcs[90]? = some Tryz.f90:=Tryz.func90
@[reducible] def Qeb:Nat:=91
theorem Qfb:goFn PP 91=true:=by kernel_rfl
theorem Yrb:PP.funcs[91]? = some Tryz.f91:=Tryz.func91
@[reducible] def Qtc:Nat:=92
theorem Quc:goFn PP 92=true:=by kernel_rfl
theorem Wjc:PP.funcs[92]? = some Tryz.f92:=Tryz.func92
@[reducible] def Wua:Nat:=93
theorem Qgb:PP.funcs[93]? = some Tryz.f93:=Tryz.func93
@[reducible] def Yhc:Nat:=94
theorem Jk:goFn PP 94=true:=by kernel_rfl
theorem Qvc:PP.funcs[94]? = some Tryz.f94:=Tryz.func94
@[reducible] def Yic:Nat:=95
theorem Qwc:PP.funcs[95]? = some Tryz.f95:=Tryz.func95
@[reducible] def Ubc:Nat:=96
theorem Ysb:goFn PP 96=true:=by kernel_rfl
theorem Xhc:PP.funcs[96]? = some Tryz.f96:=Tryz.func96
@[reducible] def Zva:Nat:=97
theorem Wjb:PP.funcs[97]? = some Tryz.f97:=Tryz.func97
@[reducible] def Zpa:Nat:=98
theorem Ytb:PP.funcs[98]? = some Tryz.f98:=Tryz.func98
@[reducible] def Vtb:Nat:=99
theorem Yub:PP.funcs[99]? = some Tryz.f99:=Tryz.func99
@[reducible] def Waa:Nat:=100
theorem Qsa:PP.funcs[100]? = some Tryz.f100:=Tryz.func100
@[reducible] def Ux:Nat:=101
theorem Vub:PP.funcs[101]? = some Tryz.f101:=Tryz.func101
@[reducible] def Wkc:Nat:=102
theorem Zqc:PP.funcs[102]? = some Tryz.f102:=Tryz.func102
@[reducible] def Zxa:Nat:=103
theorem Jma:PP.funcs[103]? = some Tryz.f103:=Tryz.func103
@[reducible] def Zrc:Nat:=104
theorem Vvb:PP.funcs[104]? = some Tryz.f104:=Tryz.func104
@[reducible] def Qhb:Nat:=105
theorem Wkb:PP.funcs[105]? = some Tryz.f105:=Tryz.func105
@[reducible] def Jna:Nat:=106
theorem Qib:PP.funcs[106]? = some Tryz.f106:=Tryz.func106
@[reducible] def Ufa:Nat:=107
theorem Yvb:PP.funcs[107]? = some Tryz.f107:=Tryz.func107
@[reducible] def Uza:Nat:=108
theorem Wlb:PP.funcs[108]? = some Tryz.f108:=Tryz.func108
@[reducible] def Wga:Nat:=109
theorem Joa:PP.funcs[109]? = some Tryz.f109:=Tryz.func109
@[reducible] def Qaa:Nat:=110
theorem Wmb:PP.funcs[110]? = some Tryz.f110:=Tryz.func110
@[reducible] def Xic:Nat:=111
theorem Wva:goFn PP 111=true:=by kernel_rfl
theorem Qjb:PP.funcs[111]? = some Tryz.f111:=Tryz.func111
@[reducible] def Qxc:Nat:=112
theorem Wlc:PP.funcs[112]? = some Tryz.f112:=Tryz.func112
@[reducible] def Uzc:Nat:=113
theorem Xke:goFn PP 113=true:=by kernel_rfl
theorem Vld:PP.funcs[113]? = some Tryz.f113:=Tryz.func113
@[reducible] def Qyc:Nat:=114
theorem Qzc:goFn PP 114=true:=by kernel_rfl
theorem Wmc:PP.funcs[114]? = some Tryz.f114:=Tryz.func114
@[reducible] def Xle:Nat:=115
theorem Qkb:goFn PP 115=true:=by kernel_rfl
theorem Vmd:PP.funcs[115]? = some Tryz.f115:=Tryz.func115
@[reducible] def Jnd:Nat:=116
theorem Ymd:PP.funcs[116]? = some Tryz.f116:=Tryz.func116
@[reducible] def Zsc:Nat:=117
theorem Vwb:PP.funcs[117]? = some Tryz.f117:=Tryz.func117
@[reducible] def Ztc:Nat:=118
theorem Vxb:PP.funcs[118]? = some Tryz.f118:=Tryz.func118
@[reducible] def Wnb:Nat:=119
theorem Yeb:PP.funcs[119]? = some Tryz.f119:=Tryz.func119
@[reducible] def Qna:Nat:=120
theorem Vyb:PP.funcs[120]? = some Tryz.f120:=Tryz.func120
@[reducible] def Vzb:Nat:=121
theorem Uab:goFn PP 121=true:=by kernel_rfl
theorem Ywb:PP.funcs[121]? = some Tryz.f121:=Tryz.func121
@[reducible] def Uga:Nat:=122
theorem Ubb:goFn PP 122=true:=by kernel_rfl
theorem Yxb:PP.funcs[122]? = some Tryz.f122:=Tryz.func122
@[reducible] def Yfb:Nat:=123
theorem Jpa:PP.funcs[123]? = some Tryz.f123:=Tryz.func123
@[reducible] def Yyb:Nat:=124
theorem Zib:PP.funcs[124]? = some Tryz.f124:=Tryz.func124
@[reducible] def Qlb:Nat:=125
theorem Qba:goFn PP 125=true:=by kernel_rfl
theorem Wob:PP.funcs[125]? = some Tryz.f125:=Tryz.func125
@[reducible] def Zuc:Nat:=126
theorem Wda:goFn PP 126=true:=by kernel_rfl
theorem Ucb:PP.funcs[126]? = some Tryz.f126:=Tryz.func126
@[reducible] def Wpb:Nat:=127
theorem Wqb:goFn PP 127=true:=by kernel_rfl
theorem Ygb:PP.funcs[127]? = some Tryz.f127:=Tryz.func127
@[reducible] def Ynd:Nat:=128
theorem Qmb:goFn PP 128=true:=by kernel_rfl
theorem Ucc:PP.funcs[128]? = some Tryz.f128:=Tryz.func128
@[reducible] def Wrb:Nat:=129
theorem Wsb:goFn PP 129=true:=by kernel_rfl
theorem Yhb:PP.funcs[129]? = some Tryz.f129:=Tryz.func129
@[reducible] def Vnd:Nat:=130
theorem Yjc:goFn PP 130=true:=by kernel_rfl
theorem Jac:PP.funcs[130]? = some Tryz.f130:=Tryz.func130
@[reducible] def Jbc:Nat:=131
theorem Jcc:goFn PP 131=true:=by kernel_rfl
theorem Wnc:PP.funcs[131]? = some Tryz.f131:=Tryz.func131
@[reducible] def Zvc:Nat:=132
theorem Udb:PP.funcs[132]? = some Tryz.f132:=Tryz.func132
@[reducible] def Zwc:Nat:=133
theorem Zxc:goFn PP 133=true:=by kernel_rfl
@[reducible] def Qoa:Nat:=134
theorem Ueb:PP.funcs[134]? = some Tryz.f134:=Tryz.func134
@[reducible] def Jod:Nat:=135
theorem Yod:PP.funcs[135]? = some Tryz.f135:=Tryz.func135
@[reducible] def Uha:Nat:=136
theorem Yzb:PP.funcs[136]? = some Tryz.f136:=Tryz.func136
@[reducible] def Uia:Nat:=137
theorem Xab:PP.funcs[137]? = some Tryz.f137:=Tryz.func137
@[reducible] def Ykc:Nat:=138
theorem Vod:goFn PP 138=true:=by kernel_rfl
theorem Jdc:PP.funcs[138]? = some Tryz.f138:=Tryz.func138
@[reducible] def Uja:Nat:=139
theorem Xbb:PP.funcs[139]? = some Tryz.f139:=Tryz.func139
@[reducible] def Vpd:Nat:=140
theorem Jec:PP.funcs[140]? = some Tryz.f140:=Tryz.func140
@[reducible] def Vqd:Nat:=141
theorem Jfc:PP.funcs[141]? = some Tryz.f141:=Tryz.func141
@[reducible] def Ypd:Nat:=142
theorem Udc:PP.funcs[142]? = some Tryz.f142:=Tryz.func142
@[reducible] def Vga:Nat:=143
theorem Wha:PP.funcs[143]? = some Tryz.f143:=Tryz.func143
@[reducible] def Ute:Nat:=145
@[reducible] def Wza:Nat:=146
theorem Zjb:PP.funcs[146]? = some Tryz.f146:=Tryz.func146
@[reducible] def Ylc:Nat:=147
theorem Jgc:PP.funcs[147]? = some Tryz.f147:=Tryz.func147
@[reducible] def Woc:Nat:=148
theorem Zyc:PP.funcs[148]? = some Tryz.f148:=Tryz.func148
@[reducible] def Jpd:Nat:=150
@[reducible] def Yle:Nat:=151
@[reducible] def Xme:Nat:=152
@[reducible] def Ubd:Nat:=153
@[reducible] def Qac:Nat:=156
@[reducible] def Vmf:Nat:=158
@[reducible] def ty_int64:Nat:=2
theorem Uaf:tySize PP 2=some 1:=by kernel_rfl
theorem Ubf:zeroOf PP 2=some (.int .i64 0):=by kernel_rfl
theorem Xgf:Qr PP 2=true:=by kernel_rfl
@[reducible] def Yib:Nat:=3
theorem Va:tySize PP 3=some 1:=by kernel_rfl
theorem Yqd:zeroOf PP 3=some (.int .i64 0):=by kernel_rfl
theorem Yd:Qr PP 3=true:=by kernel_rfl
theorem Ucf:Xyc PP 3=some .i64:=by kernel_rfl
@[reducible] def Wpc:Nat:=4
theorem Jyc:tySize PP 4=some 1:=by kernel_rfl
theorem Jzc:zeroOf PP 4=some (.bool false):=by kernel_rfl
theorem Jqa:Qr PP 4=true:=by kernel_rfl
theorem Xne:PP.underlying 4=some .bool:=by kernel_rfl
@[reducible] def ty_uint8:Nat:=5
theorem Udf:tySize PP 5=some 1:=by kernel_rfl
theorem Uef:zeroOf PP 5=some (.int .u8 0):=by kernel_rfl
theorem Xhf:Qr PP 5=true:=by kernel_rfl
theorem Xoe:Xyc PP 5=some .u8:=by kernel_rfl
@[reducible] def ty_string:Nat:=9
theorem Xif:tySize PP 9=some 1:=by kernel_rfl
theorem Xjf:zeroOf PP 9=some (.string ⟨#[]⟩):=by kernel_rfl
theorem Yg:Qr PP 9=true:=by kernel_rfl
theorem Yu:Xuc PP 9=true:=by kernel_rfl
@[reducible] def Qnb:Nat:=22
theorem Jra:tySize PP 22=some 1:=by kernel_rfl
theorem Yrd:zeroOf PP 22=some (.slice none 0 0):=by kernel_rfl
theorem Zf:Qr PP 22=true:=by kernel_rfl
theorem Zd:tyElem PP 22=some (26,9,104):=by kernel_rfl
@[reducible] def Je:Nat:=24
theorem Wi:tySize PP 24=some 2:=by kernel_rfl
theorem Wn:zeroOf PP 24=some (.agg #[.int .i64 0,.string ⟨#[]⟩]):=by kernel_rfl
theorem Xb:Xma PP 24=some 2:=by kernel_rfl
theorem Vaa:Xfa PP 24=some [0,1]:=by kernel_rfl
theorem Uva:Xj PP 24 0=some 0:=by kernel_rfl
theorem Ymc:Xj PP 24 1=some 1:=by kernel_rfl
theorem Ve:Vj PP 24=some [(0,1),(1,1)]:=by kernel_rfl
@[reducible] def Ys:Nat:=26
theorem Jf:tySize PP 26=some 9:=by kernel_rfl
theorem Zu:zeroOf PP 26=some (.agg #[.int .i64 0,.string ⟨#[]⟩,.int .i64 0,.int .i64 0,.slice none 0 0,.int .i64 0,.string ⟨#[]⟩,.int .i64 0,.int .i64 0]):=by kernel_rfl
theorem Zh:Xma PP 26=some 9:=by kernel_rfl
theorem Xm:Xj PP 26 0=some 0:=by kernel_rfl
theorem Yn:Xj PP 26 1=some 1:=by kernel_rfl
theorem Vg:Xj PP 26 2=some 2:=by kernel_rfl
theorem Wia:Xj PP 26 3=some 3:=by kernel_rfl
theorem Zg:Xj PP 26 4=some 4:=by kernel_rfl
theorem Wl:Xj PP 26 5=some 5:=by kernel_rfl
theorem Qc:Xj PP 26 6=some 7:=by kernel_rfl
theorem Xca:Xj PP 26 7=some 8:=by kernel_rfl
theorem Xn:Vj PP 26=some [(0,1),(1,1),(2,1),(3,1),(4,1),(5,2),(7,1),(8,1)]:=by kernel_rfl
@[reducible] def Wqa:Nat:=30
theorem Wra:tySize PP 30=some 1:=by kernel_rfl
theorem Jhc:zeroOf PP 30=some (.slice none 0 0):=by kernel_rfl
theorem Yha:Qr PP 30=true:=by kernel_rfl
theorem Xq:tyElem PP 30=some (44,5,48):=by kernel_rfl
@[reducible] def Wqc:Nat:=35
theorem Zpb:tySize PP 35=some 1:=by kernel_rfl
theorem Wrc:zeroOf PP 35=some (.slice none 0 0):=by kernel_rfl
theorem Xjc:Qr PP 35=true:=by kernel_rfl
theorem Wp:tyElem PP 35=some (47,2,16):=by kernel_rfl
@[reducible] def Wrd:Nat:=39
theorem Zkb:tySize PP 39=some 1:=by kernel_rfl
theorem Zlb:zeroOf PP 39=some (.slice none 0 0):=by kernel_rfl
theorem Jsa:Qr PP 39=true:=by kernel_rfl
theorem Xo:tyElem PP 39=some (42,10,112):=by kernel_rfl
@[reducible] def Wtb:Nat:=42
theorem Wub:tySize PP 42=some 10:=by kernel_rfl
theorem Vw:zeroOf PP 42=some (.agg #[.int .i64 0,.string ⟨#[]⟩,.int .i64 0,.int .i64 0,.slice none 0 0,.int .i64 0,.string ⟨#[]⟩,.int .i64 0,.int .i64 0,.int .i64 0]):=by kernel_rfl
theorem Xcb:Xma PP 42=some 10:=by kernel_rfl
theorem Wja:Xj PP 42 0=some 0:=by kernel_rfl
theorem Jl:Xj PP 42 1=some 9:=by kernel_rfl
theorem Vna:Vj PP 42=some [(0,9),(9,1)]:=by kernel_rfl
@[reducible] def Qta:Nat:=44
theorem Jqd:tySize PP 44=some 5:=by kernel_rfl
theorem Qt:zeroOf PP 44=some (.agg #[.string ⟨#[]⟩,.int .i64 0,.string ⟨#[]⟩,.bool false,.bool false]):=by kernel_rfl
theorem Ync:Xma PP 44=some 5:=by kernel_rfl
theorem Jrd:Uoe PP 44=some [(none,[1]),(some 24,[0,1]),(none,[2]),(none,[2])]:=by kernel_rfl
theorem Qob:Xj PP 44 0=some 0:=by kernel_rfl
theorem Qpb:Xj PP 44 1=some 1:=by kernel_rfl
theorem Voa:Xj PP 44 2=some 3:=by kernel_rfl
theorem Vpa:Xj PP 44 3=some 4:=by kernel_rfl
theorem Vqa:Vj PP 44=some [(0,1),(1,2),(3,1),(4,1)]:=by kernel_rfl
@[reducible] def Qqb:Nat:=47
theorem Jta:tySize PP 47=some 2:=by kernel_rfl
theorem Qd:zeroOf PP 47=some (.agg #[.int .i64 0,.int .i64 0]):=by kernel_rfl
theorem Zra:Xma PP 47=some 2:=by kernel_rfl
theorem Yia:Xfa PP 47=some [0,0]:=by kernel_rfl
theorem Xxa:Xj PP 47 0=some 0:=by kernel_rfl
theorem Yja:Xj PP 47 1=some 1:=by kernel_rfl
theorem Yka:Vj PP 47=some [(0,1),(1,1)]:=by kernel_rfl
@[reducible] def Jgg:Nat:=48
theorem Uue:tySize PP 48=some 1:=by kernel_rfl
theorem Uve:zeroOf PP 48=some (.slice none 0 0):=by kernel_rfl
theorem Xpe:Qr PP 48=true:=by kernel_rfl
theorem Wvb:tyElem PP 48=some (4,1,1):=by kernel_rfl
@[reducible] def Xvg:Nat:=49
theorem Wsc:tySize PP 49=some 1:=by kernel_rfl
theorem Jsd:zeroOf PP 49=some (.int .i64 0):=by kernel_rfl
theorem Wka:Qr PP 49=true:=by kernel_rfl
@[reducible] def Yxa:Nat:=54
theorem Jic:tySize PP 54=some 1:=by kernel_rfl
theorem Jjc:zeroOf PP 54=some (.map none):=by kernel_rfl
theorem Una:Qr PP 54=true:=by kernel_rfl
@[reducible] def Zia:Nat:=58
theorem Vra:tySize PP 58=some 1:=by kernel_rfl
theorem Vsa:zeroOf PP 58=some (.nilFunc):=by kernel_rfl
theorem Jy:Qr PP 58=true:=by kernel_rfl
@[reducible] def Vba:Nat:=59
theorem Xdb:tySize PP 59=some 1:=by kernel_rfl
theorem Xeb:zeroOf PP 59=some (.map none):=by kernel_rfl
theorem Zya:Qr PP 59=true:=by kernel_rfl
@[reducible] def Vnf:Nat:=60
theorem Wsa:tySize PP 60=some 1:=by kernel_rfl
theorem Jkc:zeroOf PP 60=some (.slice none 0 0):=by kernel_rfl
theorem Vl:Qr PP 60=true:=by kernel_rfl
theorem Xf:tyElem PP 60=some (85,3,32):=by kernel_rfl
@[reducible] def Zad:Nat:=63
theorem Qua:tySize PP 63=some 1:=by kernel_rfl
theorem Qva:zeroOf PP 63=some (.pointer none):=by kernel_rfl
theorem Qha:Qr PP 63=true:=by kernel_rfl
@[reducible] def Uv:Nat:=65
theorem Zmb:tySize PP 65=some 4:=by kernel_rfl
theorem Wba:zeroOf PP 65=some (.agg #[.slice none 0 0,.int .i64 0,.int .i64 0,.bool false]):=by kernel_rfl
theorem Jua:Xma PP 65=some 4:=by kernel_rfl
theorem Uo:Xj PP 65 0=some 0:=by kernel_rfl
theorem Qn:Xj PP 65 1=some 1:=by kernel_rfl
theorem Xga:Xj PP 65 2=some 2:=by kernel_rfl
theorem Qwa:Xj PP 65 3=some 3:=by kernel_rfl
theorem Wca:Vj PP 65=some [(0,1),(1,1),(2,1),(3,1)]:=by kernel_rfl
@[reducible] def Jlc:Nat:=69
theorem Qia:tySize PP 69=some 1:=by kernel_rfl
theorem Qja:zeroOf PP 69=some (.pointer none):=by kernel_rfl
theorem Qca:Qr PP 69=true:=by kernel_rfl
@[reducible] def Uec:Nat:=70
theorem Vm:tySize PP 70=some 1:=by kernel_rfl
theorem Uoa:zeroOf PP 70=some (.slice none 0 0):=by kernel_rfl
theorem Yy:Qr PP 70=true:=by kernel_rfl
theorem Yp:tyElem PP 70=some (95,6,64):=by kernel_rfl
@[reducible] def ty_sl_int:Nat:=71
theorem Jsb:tySize PP 71=some 1:=by kernel_rfl
theorem Xkf:zeroOf PP 71=some (.slice none 0 0):=by kernel_rfl
theorem Jva:Qr PP 71=true:=by kernel_rfl
theorem Xda:tyElem PP 71=some (3,1,8):=by kernel_rfl
@[reducible] def Vb:Nat:=73
theorem Xoa:tySize PP 73=some 17:=by kernel_rfl
theorem Xpa:zeroOf PP 73=some (.agg #[.int .i64 0,.string ⟨#[]⟩,.int .i64 0,.int .i64 0,.slice none 0 0,.int .i64 0,.string ⟨#[]⟩,.int .i64 0,.int .i64 0,.slice none 0 0,.int .i64 0,.int .i64 0,.slice none 0 0,.int .i64 0,.string ⟨#[]⟩,.int .i64 0,.int .i64 0]):=by kernel_rfl
theorem Xha:Xma PP 73=some 17:=by kernel_rfl
theorem Wd:Xj PP 73 0=some 0:=by kernel_rfl
theorem Yw:Xj PP 73 1=some 9:=by kernel_rfl
theorem Zca:Xj PP 73 2=some 10:=by kernel_rfl
theorem Vz:Xj PP 73 3=some 11:=by kernel_rfl
theorem Wt:Xj PP 73 4=some 12:=by kernel_rfl
theorem Zda:Xj PP 73 5=some 13:=by kernel_rfl
theorem Qe:Xj PP 73 6=some 15:=by kernel_rfl
theorem Ug:Xj PP 73 7=some 16:=by kernel_rfl
theorem Jwa:Vj PP 73=some [(0,9),(9,1),(10,1),(11,1),(12,1),(13,2),(15,1),(16,1)]:=by kernel_rfl
@[reducible] def Xwg:Nat:=79
theorem Jtd:tySize PP 79=some 13:=by kernel_rfl
theorem Jud:zeroOf PP 79=some (.agg #[.string ⟨#[]⟩,.string ⟨#[]⟩,.string ⟨#[]⟩,.string ⟨#[]⟩,.string ⟨#[]⟩,.string ⟨#[]⟩,.string ⟨#[]⟩,.string ⟨#[]⟩,.string ⟨#[]⟩,.string ⟨#[]⟩,.string ⟨#[]⟩,.string ⟨#[]⟩,.string ⟨#[]⟩]):=by kernel_rfl
theorem Yoc:Xma PP 79=some 13:=by kernel_rfl
theorem Jvd:Qpd PP 79=some 13:=by kernel_rfl
@[reducible] def Vx:Nat:=85
theorem Qf:tySize PP 85=some 3:=by kernel_rfl
theorem Wa:zeroOf PP 85=some (.agg #[.int .i64 0,.string ⟨#[]⟩,.int .i64 0]):=by kernel_rfl
theorem Wq:Xma PP 85=some 3:=by kernel_rfl
theorem Jxa:Xj PP 85 0=some 0:=by kernel_rfl
theorem Qu:Xj PP 85 1=some 1:=by kernel_rfl
theorem Qrb:Xj PP 85 2=some 2:=by kernel_rfl
theorem Qv:Vj PP 85=some [(0,1),(1,1),(2,1)]:=by kernel_rfl
@[reducible] def Xp:Nat:=95
theorem Qxa:tySize PP 95=some 6:=by kernel_rfl
theorem Qp:zeroOf PP 95=some (.agg #[.string ⟨#[]⟩,.int .i64 0,.string ⟨#[]⟩,.int .i64 0,.int .i64 0,.int .i64 0]):=by kernel_rfl
theorem Yya:Xma PP 95=some 6:=by kernel_rfl
theorem Jr:Xj PP 95 0=some 0:=by kernel_rfl
theorem Ypa:Xj PP 95 1=some 1:=by kernel_rfl
theorem Yqa:Xj PP 95 2=some 3:=by kernel_rfl
theorem Yra:Xj PP 95 3=some 4:=by kernel_rfl
theorem Js:Xj PP 95 4=some 5:=by kernel_rfl
theorem Xia:Vj PP 95=some [(0,1),(1,2),(3,1),(4,1),(5,1)]:=by kernel_rfl
@[reducible] def Zff:Nat:=97
theorem Wtc:tySize PP 97=some 1:=by kernel_rfl
theorem Wuc:zeroOf PP 97=some (.pointer none):=by kernel_rfl
theorem Xkc:Qr PP 97=true:=by kernel_rfl
@[reducible] def Yza:Nat:=101
theorem Jmc:tySize PP 101=some 4:=by kernel_rfl
theorem Jnc:zeroOf PP 101=some (.agg #[.string ⟨#[]⟩,.int .i64 0,.slice none 0 0,.slice none 0 0]):=by kernel_rfl
theorem Ufc:Xma PP 101=some 4:=by kernel_rfl
theorem Vq:Xj PP 101 0=some 0:=by kernel_rfl
theorem Xc:Xj PP 101 1=some 1:=by kernel_rfl
theorem Jz:Xj PP 101 2=some 2:=by kernel_rfl
theorem Vta:Xj PP 101 3=some 3:=by kernel_rfl
theorem Joc:Vj PP 101=some [(0,1),(1,1),(2,1),(3,1)]:=by kernel_rfl
@[reducible] def Uwe:Nat:=102
theorem Xlc:tySize PP 102=some 1:=by kernel_rfl
theorem Xmc:zeroOf PP 102=some (.nilFunc):=by kernel_rfl
theorem Zzc:Qr PP 102=true:=by kernel_rfl
@[reducible] def ty_uint64:Nat:=109
theorem Xlf:tySize PP 109=some 1:=by kernel_rfl
theorem Xmf:zeroOf PP 109=some (.int .u64 0):=by kernel_rfl
theorem Uxe:Qr PP 109=true:=by kernel_rfl
theorem Jtb:Xyc PP 109=some .u64:=by kernel_rfl
@[reducible] def ty_error:Nat:=119
theorem Uff:tySize PP 119=some 1:=by kernel_rfl
theorem Ugf:zeroOf PP 119=some (.nilIface):=by kernel_rfl
theorem Xnf:Qr PP 119=true:=by kernel_rfl
theorem Xqe:PP.isIface 119=true:=by kernel_rfl
@[reducible] def Xxg:Nat:=122
theorem Jwd:tySize PP 122=some 27:=by kernel_rfl
theorem Jxd:zeroOf PP 122=some (.agg #[.string ⟨#[]⟩,.string ⟨#[]⟩,.string ⟨#[]⟩,.string ⟨#[]⟩,.string ⟨#[]⟩,.string ⟨#[]⟩,.string ⟨#[]⟩,.string ⟨#[]⟩,.string ⟨#[]⟩,.string ⟨#[]⟩,.string ⟨#[]⟩,.string ⟨#[]⟩,.string ⟨#[]⟩,.string ⟨#[]⟩,.string ⟨#[]⟩,.string ⟨#[]⟩,.string ⟨#[]⟩,.string ⟨#[]⟩,.string ⟨#[]⟩,.string ⟨#[]⟩,.string ⟨#[]⟩,.string ⟨#[]⟩,.string ⟨#[]⟩,.string ⟨#[]⟩,.string ⟨#[]⟩,.string ⟨#[]⟩,.string ⟨#[]⟩]):=by kernel_rfl
theorem Ypc:Xma PP 122=some 27:=by kernel_rfl
theorem Jyd:Qpd PP 122=some 27:=by kernel_rfl
@[reducible] def Uhf:Nat:=124
theorem Ysd:tySize PP 124=some 1:=by kernel_rfl
theorem Ytd:zeroOf PP 124=some (.slice none 0 0):=by kernel_rfl
theorem Jpc:Qr PP 124=true:=by kernel_rfl
theorem Xqa:tyElem PP 124=some (24,2,24):=by kernel_rfl
@[reducible] def Vof:Nat:=127
theorem Jqc:tySize PP 127=some 1:=by kernel_rfl
theorem Jrc:zeroOf PP 127=some (.slice none 0 0):=by kernel_rfl
theorem Ugc:Qr PP 127=true:=by kernel_rfl
theorem Xaa:tyElem PP 127=some (131,3,40):=by kernel_rfl
@[reducible] def Qya:Nat:=131
theorem Jzd:tySize PP 131=some 3:=by kernel_rfl
theorem Wwb:zeroOf PP 131=some (.agg #[.string ⟨#[]⟩,.int .i64 0,.string ⟨#[]⟩]):=by kernel_rfl
theorem Vrd:Xma PP 131=some 3:=by kernel_rfl
theorem Qsb:Xj PP 131 0=some 0:=by kernel_rfl
theorem Qtb:Xj PP 131 1=some 1:=by kernel_rfl
theorem Wvc:Vj PP 131=some [(0,1),(1,2)]:=by kernel_rfl
@[reducible] def Xof:Nat:=136
theorem Uhc:tySize PP 136=some 1:=by kernel_rfl
theorem Uic:zeroOf PP 136=some (.int .i64 0):=by kernel_rfl
theorem Wwc:Qr PP 136=true:=by kernel_rfl
@[reducible] def Yme:Nat:=140
theorem Ufb:tySize PP 140=some 1:=by kernel_rfl
theorem Ugb:zeroOf PP 140=some (.pointer none):=by kernel_rfl
theorem Wxb:Qr PP 140=true:=by kernel_rfl
@[reducible] def Qsg:Nat:=144
theorem Xre:tySize PP 144=some 1:=by kernel_rfl
theorem Xse:zeroOf PP 144=some (.slice none 0 0):=by kernel_rfl
theorem Zae:Qr PP 144=true:=by kernel_rfl
theorem Xte:tyElem PP 144=some (5,1,1):=by kernel_rfl
@[reducible] def Uhe:Nat:=146
theorem Yac:tySize PP 146=some 3:=by kernel_rfl
theorem Ybc:zeroOf PP 146=some (.agg #[.string ⟨#[]⟩,.string ⟨#[]⟩,.nilIface]):=by kernel_rfl
theorem Qub:Xma PP 146=some 3:=by kernel_rfl
theorem Uhb:Xj PP 146 0=some 0:=by kernel_rfl
theorem Uib:Xj PP 146 1=some 1:=by kernel_rfl
theorem Ujb:Xj PP 146 2=some 2:=by kernel_rfl
theorem Ycc:Vj PP 146=some [(0,1),(1,1),(2,1)]:=by kernel_rfl
@[reducible] def Jhg:Nat:=148
theorem Uye:tySize PP 148=some 1:=by kernel_rfl
theorem Uze:zeroOf PP 148=some (.pointer none):=by kernel_rfl
theorem Xue:Qr PP 148=true:=by kernel_rfl
end Go.Rk
