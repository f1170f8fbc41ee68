/- Merged texts. Conditions: each text's own. -/
import Derived.Orders
import Derived.Below
import Derived.LoopTactic
import Derived.CallsIn
import Derived.OrdersIn
import Derived.DefersIn
import Derived.RangeFuncRecord
import Derived.RangeFuncLeaves
import Derived.WalkKit
import Derived.WalkSpells
import Derived.WalkLawsBesides
import Derived.Maps.AppendAt
import Derived.Laws.StructEq
import Derived.Stop.IfaceNil
import Derived.Laws.Pointers
import Derived.Lib.Builder
import Derived.Lib.AppendStr
import Derived.Lib.UnsafeStr
import Derived.Laws.Externs
import Derived.Test.YtmpfjifhkmdbaaaGreatDoorProg
import Derived.KernelRfl
import Derived.RangeFuncOwn
set_option linter.unusedSimpArgs false
set_option linter.unusedVariables false
set_option maxHeartbeats 16000000
set_option maxRecDepth 100000
open Array renaming getElem?_eq_some_iff→Ana,getElem?_eq_getElem→Aqa,replicate→Axa,mem_toList_iff→Bea,mapM_eq_mapM_toList→Bia,getElem?_append→Bla,toArray_toList→Bwa
open Bool renaming and_eq_true→Aca,or_eq_true→Apa,false_or→Bra,eq_iff_iff→Bta,or_eq_false_iff→Cia
open Go renaming World→Aa,TypeId→Ba,PanicEntry→Da,Operand→Ea,Program→Fa,Value→Ga
open Go.Region renaming wanted→Ha,binds→Ia
open Go.Result renaming andThen_ok→Ka
open List renaming range→Aea,length_cons→Afa,mem_cons_self→Aga,all_eq_true→Aia,range'_succ→Aka,mem_cons_of_mem→Ama,pairwise_cons→Aoa,length_append→Asa,mem_cons→Ata,getElem?_eq_some_iff→Aua,mem_singleton→Ava,mem_of_mem_erase→Awa,map_cons→Aza,append_assoc→Baa,length_take→Bba,length_erase_of_mem→Bca,size_toArray→Bda,map_toArray→Bga,mapM_cons→Bha,append_nil→Bma,getD_eq_getElem?_getD→Bqa,getElem?_take→Bsa,take_of_length_le→Bua,nil_append→Bxa,nodup_cons→Bya,erase_cons_tail→Bza,eq_nil_of_length_eq_zero→Caa,eq_nil_iff_forall_not_mem→Cba,getElem?_eq_none→Cca,take_set_of_le→Cda,drop_set_of_lt→Cea,singleton_append→Cga,length_eq_one_iff→Cha,getElem?_toArray→Cja
open Nat renaming beq→Aaa,blt→Aba,eq_of_beq_eq_true→Ada,le_of_ble_eq_true→Aha,ble→Aja,le_refl→Ala,beq_refl→Bfa,add_mul→Bja,sub_zero→Bka,ne_of_lt→Bna,lt_or_ge→Boa,add_assoc→Bpa,zero_add→Bva,ble_eq_true_of_le→Cfa
open Option renaming map_some→Ara,map_none→Aya
namespace Go.Proofs
end Go.Proofs
namespace Go.Rk
open Go.Proofs
open Go Go.RowKit
theorem O {p : Prop} (h : p := by omega) : p := h
theorem KR {p : Prop} (h : p := by kernel_rfl) : p := h
theorem Od {p : Prop} (h : p := by decide) : p := h
theorem Os {p : Prop} (h : p := by simp) : p := h
theorem Oi {p : Prop} (h : p := by first | exact .inl (by omega) | exact .inr (by simp)) : p := h
theorem Oj {p : Prop} (h : p := by intro j hj; simp at hj ⊢; omega) : p := h
theorem Ok {p : Prop} (h : p := by intro j hj; simp at hj ⊢ <;> omega) : p := h
theorem Wfg{α:Type}{x y:List α}:(x++y).length=x.length+y.length:=Asa
theorem Wgg{α:Type}{a:α}{x:List α}:(a::x).length=x.length+1:=rfl
theorem Whg{α:Type}:([]:List α).length=0:=rfl
theorem Wig{α:Type}{x:List α}{y:List (List α)}:(x::y).flatten=x++y.flatten:=rfl
theorem Wjg{α:Type}:([]:List (List α)).flatten=[]:=rfl
theorem Wkg{α:Type}(x:List α):x++[]=x:=Bma x
theorem Wlg{α:Type}{a:α}{n:Nat}:(List.replicate n a).length=n:=List.length_replicate
theorem J{α:Sort _}{a:α}:a=a:=rfl
theorem Wpg{p:Prop}[Decidable p]:(decide p=true)=p:=decide_eq_true_eq
theorem Wqg{p:Prop}[Decidable p]:decide p=false↔¬ p:=decide_eq_false_iff_not
theorem Wrg{p:Prop}[Decidable p]:decide p=true→p:=of_decide_eq_true
theorem Wsg{p:Prop}[Decidable p]:decide p=false→¬ p:=of_decide_eq_false
theorem Wtg{α:Type}(a b:α):cond false a b=b:=rfl
theorem Wug{α:Type}(a b:α):cond true a b=a:=rfl
theorem Wmg{p:Prop}[Decidable p](h:¬ p):decide p=false:=decide_eq_false h
theorem Wng{p:Prop}[Decidable p](h:p):decide p=true:=decide_eq_true h
theorem Wog{a b:Bool}(h:a=b):Value.bool a=Value.bool b:=congrArg Value.bool h
def G(w w':Aa):Prop:=Below w.heap.size w w'
theorem G.refl(w:Aa):G w w:=Below.refl _ _
theorem G.trans{a b c:Aa}(h:G a b)(k:G b c):G a c:=Below.trans h (Below.mono k h.size)
theorem G.drew(w:Aa):G w w.drew:=⟨rfl,rfl,rfl,Ala _,fun _ _=>rfl⟩
theorem G.size{a b:Aa}(h:G a b):a.heap.size≤b.heap.size:=Below.size h
theorem G.block{a b:Aa}(h:G a b){k:Nat}(hk:k<a.heap.size):b.heap[k]? = a.heap[k]?:=Below.block h k hk
def WF(ρ:Option Nat):Fence:={ Fence.wide with round:=ρ }
@[reducible] def NoP:List Da→Act→Aa→Prop:=fun _ _ _=>False
def Eff(P:Fa)(Z:List Da→Act→Aa→Prop)(gr:Bool)(o:Oper)(a:Act)(w:Aa)(next:Act→Aa→Prop):Prop :=
 (∃ v w',(execOp a.eval o).run P w = .ok (.value v) w'∧(gr=true→G w w')∧next (a.put o.dst v) w')∨
 (∃ w',(execOp a.eval o).run P w = .ok .skip w'∧(gr=true→G w w')∧next (a.put o.dst undef) w')∨
 (∃ f args,(execOp a.eval o).run P w = .ok (.enter f args) w∧Calls P f args w fun e w'=>(∃ v,e = .returned v∧(gr=true→G w w')∧next (a.put o.dst v) w')∨(∃ ch,e = .panicked ch∧Z ch a w'))∨
 (∃ l f tmps asg body,(execOp a.eval o).run P w = .ok (.round l f tmps asg body) w∧RoundIn Fence.wide 0 P l f tmps asg body w fun e w'=>∃ v,e = .returned v∧(gr=true→G w w')∧next (a.put o.dst v) w')
theorem Wue{P:Fa}{ρ:Ea→Ga}{o:Oper}{c:Call}(ho:o.op = .defer c){w w':Aa}{x:Next}(h:(execOp ρ o).run P w = .ok x w'):∃ d,x = .defer d:=by
 unfold execOp at h;rw [ho] at h;simp only [Sem.run_bind,Sem.run_pure] at h
 cases hr:(resolve ρ c o.type).run P w with
 | ok d w1=>rw [hr] at h;simp only [Ka] at h;injection h with h _;exact ⟨d,h.symm⟩
 | halt s w1=>rw [hr] at h;cases h
theorem Usa{P:Fa}{ρ:Option Nat}{a:Act}{o:Oper}{w w':Aa}{x:Next}(h:(execOp a.eval o).run P w = .ok x w')(hd:∀ d,x≠.defer d):Oper.semAt ρ a.eval o=execOp a.eval o :=
 Oper.semAt_eq _ _ _ fun c hc=>by obtain ⟨d,e⟩:=Wue hc h;exact hd d e
theorem Qid{ρ:Option Nat}{n:Nat}{P:Fa}{f:FuncId}{args:Array Ga}{w:Aa}{R:Ending→Aa→Prop}(h:Calls P f args w R):CallsIn (WF ρ) n P f args w R:=callsIn_wide.2 h
theorem Eff.wpIn{P:Fa}{Z:List Da→Act→Aa→Prop}{gr:Bool}{o:Oper}{a:Act}{w:Aa}{next:Act→Aa→Prop}{Q:Exit→Act→Aa→Prop}{ρ:Option Nat}
 (h:Eff P Z gr o a w next) (hZ:∀ ch w',Z ch a w'→Q (.panic ch) a w'):o.wpIn (WF ρ) 0 P a w next Q:=by
 refine ⟨fun _ _=>trivial,?_⟩;rcases h with ⟨v,w',hr,_,hn⟩|⟨w',hr,_,hn⟩|⟨f,args,hr,hc⟩|⟨l,f,tmps,asg,body,hr,hc⟩;rw [Usa hr (fun d h=>by cases h),hr];exact hn;rw [Usa hr (fun d h=>by cases h),hr];exact hn;rw [Usa hr (fun d h=>by cases h),hr];refine ⟨(fun h=>by cases h),Qid (Calls.mono hc fun e w' h=>?_)⟩;rcases h with ⟨v,rfl,_,hn⟩|⟨ch,rfl,hz⟩;exact hn;exact hZ ch w' hz;rw [Usa hr (fun d h=>by cases h),hr];refine ⟨(fun h=>by cases h),(RoundIn.mono hc fun e w' h=>?_:RoundIn Fence.wide 0 P l f tmps asg body w _)⟩;obtain ⟨v,rfl,_,hn⟩:=h;exact hn
theorem Eff.some{P:Fa}{Z:List Da→Act→Aa→Prop}{gr:Bool}{o:Oper}{a:Act}{w:Aa}{next:Act→Aa→Prop}(hZ:∀ ch a w,¬ Z ch a w)(h:Eff P Z gr o a w next) :
 ∃ v w',(gr=true→G w w')∧next (a.put o.dst v) w':=by
 rcases h with ⟨v,w',_,hg,hn⟩|⟨w',_,hg,hn⟩|⟨f,args,_,hc⟩|⟨l,f,tmps,asg,body,_,hc⟩;exact ⟨v,w',hg,hn⟩;exact ⟨undef,w',hg,hn⟩;obtain ⟨e,w',fr,h,_⟩:=hc [];rcases h with ⟨v,_,hg,hn⟩|⟨ch,_,hz⟩;exact ⟨v,w',hg,hn⟩;exact absurd hz (hZ _ _ _);obtain ⟨e,w',⟨v,_,hg,hn⟩,_⟩:=hc.2 default [] (room_wide _);exact ⟨v,w',hg,hn⟩
theorem Eff.turn{P:Fa}{Z Z':List Da→Act→Aa→Prop}{gr:Bool}{o:Oper}{a b:Act}{w:Aa}{next next':Act→Aa→Prop}(he:execOp b.eval o=execOp a.eval o)
 (hz:∀ ch w',Z ch a w'→Z' ch b w')
 (hn:∀ v w',(gr=true→G w w')→next (a.put o.dst v) w'→next' (b.put o.dst v) w') (h:Eff P Z gr o a w next):Eff P Z' gr o b w next':=by
 rcases h with ⟨v,w',hr,hg,h1⟩|⟨w',hr,hg,h1⟩|⟨f,args,hr,hc⟩|⟨l,f,tmps,asg,body,hr,hc⟩;exact .inl ⟨v,w',by rw [he];exact hr,hg,hn _ _ hg h1⟩;exact .inr (.inl ⟨w',by rw [he];exact hr,hg,hn _ _ hg h1⟩);refine .inr (.inr (.inl ⟨f,args,by rw [he];exact hr,Calls.mono hc fun e w' h=>?_⟩));rcases h with ⟨v,e1,hg,h1⟩|⟨ch,e1,h1⟩;exact .inl ⟨v,e1,hg,hn _ _ hg h1⟩;exact .inr ⟨ch,e1,hz _ _ h1⟩;refine .inr (.inr (.inr ⟨l,f,tmps,asg,body,by rw [he];exact hr,RoundIn.mono hc fun e w' h=>?_⟩));obtain ⟨v,e1,hg,h1⟩:=h;exact ⟨v,e1,hg,hn _ _ hg h1⟩
section
variable (P:Fa) (Z:List Da→Act→Aa→Prop) (ops:Array Oper) (cl:Nat→Nat) (lv:Nat→Bool) (W0:Aa) (K:Act→Aa→Prop)
def Gd(cl:Nat→Nat)(lv:Nat→Bool)(W0:Aa)(i:Nat)(w w1:Aa):Prop:=cl i=3∨G (if lv i=true then w else W0) w1
def RS:List Nat→Act→Aa→Prop
 | [],a,w=>K a w
 | i::rest,a,w =>
  ∃ o,ops[i]? = some o∧
  if cl i=0∨cl i=3 then
   ∃ v,(Ha o (yielded ops a.tmps)=true→∀ w1,Gd cl lv W0 i w w1→(execOp a.eval o).run P w1 = .ok (.value v) w1)∧
    (Ha o (yielded ops a.tmps)=false→v=undef)∧RS rest (a.put o.dst v) w
  else if Ha o (yielded ops a.tmps)=true then Eff P Z (cl i == 1) o a w (fun a' w'=>RS rest a' w')
  else RS rest (a.put o.dst undef) w
end
section
variable {P:Fa} {Z:List Da→Act→Aa→Prop} {ops:Array Oper} {cl:Nat→Nat} {lv:Nat→Bool} {wt:Nat→Nat→Bool} {W0:Aa} {K:Act→Aa→Prop}
structure Okay (ops:Array Oper) (cl:Nat→Nat) (lv:Nat→Bool) (wt:Nat→Nat→Bool):Prop where
  sel:∀ (j:Nat) (o:Oper) cs b,ops[j]? = some o→o.op≠.select cs b
  way:∀ (j:Nat) (o:Oper) (i:Nat),ops[j]? = some o→wt j i=true→∃ e,e∈o.after∧Ia .any e=true∧(e.on=i∨wt e.on i=true)
  lt:∀ (j:Nat) (o:Oper) (e:Edge),ops[j]? = some o→e∈o.after→Ia .any e=true→e.on<j
  pair:∀ (i j:Nat) (oi oj:Oper),i<j→ops[i]? = some oi→ops[j]? = some oj→wt j i=false→oi.apart ops oj=true∧(cl i=3∨cl j=3∨(cl i=0∨cl j=0)∧cl i≠2∧cl j≠2)
  cls:∀ i,cl i≤3
  fresh:∀ (i j:Nat),i<j→j<ops.size→cl j=0→lv j=true→cl i≠0→cl i≠3→wt j i=true
  stale:∀ (i j:Nat),i<j→j<ops.size→cl j=0→lv j=false→cl i≠2
theorem Qie(hZ:∀ ch a w,¬ Z ch a w)(ok:Okay ops cl lv wt){j:Nat}{oj:Oper}(hj:ops[j]? = some oj)(hcj:cl j=0∨cl j=3) :
 ∀ (L:List Nat) (a:Act) (w:Aa),L.Pairwise (· < ·)→j∈L→(∀ i∈L,i<j→wt j i=false)→RS P Z ops cl lv W0 K L a w→
 ∃ v,(Ha oj (yielded ops a.tmps)=true→∀ w1,Gd cl lv W0 j w w1→(execOp a.eval oj).run P w1 = .ok (.value v) w1)∧
 (Ha oj (yielded ops a.tmps)=false→v=undef)∧RS P Z ops cl lv W0 K (L.erase j) (a.put oj.dst v) w:=by
 intro L
 induction L with
 | nil=>intro a w _ hm;cases hm
 | cons i rest ih =>
  intro a w hs hm hr h;obtain ⟨oi,hoi,hb⟩:=h;by_cases hij:i=j;subst hij;obtain rfl:oi=oj:=Option.some.inj (hoi.symm.trans hj);rw [if_pos hcj] at hb;obtain ⟨v,h1,h2,h3⟩:=hb;exact ⟨v,h1,h2,by simpa using h3⟩
  have hmr:j∈rest:=by
   rcases Ata.1 hm with h|h;exact absurd h.symm hij;exact h
  have hlt:i<j:=(Aoa.1 hs).1 j hmr;have hrr:∀ k∈rest,k<j→wt j k=false:=fun k hk=>hr k (Ama _ hk);have hw:=hr i Aga hlt;obtain ⟨hap,hcc⟩:=ok.pair i j oi oj hlt hoi hj hw;obtain ⟨p1,p2,p3⟩:=Oper.apart_spec hap
  have he:(i::rest).erase j=i::rest.erase j:=by
   rw [Bza];simpa using hij
  have evj:∀ v,execOp (a.put oi.dst v).eval oj=execOp a.eval oj:=fun v=>execOp_put (ops:=ops) oj (fun cs b=>ok.sel j oj cs b hj) a oi.dst v p1;have waj:∀ v,Ha oj (yielded ops (a.put oi.dst v).tmps)=Ha oj (yielded ops a.tmps):=fun v=>wanted_put oj a oi.dst v p1;have evi:∀ v,execOp (a.put oj.dst v).eval oi=execOp a.eval oi:=fun v=>execOp_put (ops:=ops) oi (fun cs b=>ok.sel i oi cs b hoi) a oj.dst v p3;have wai:∀ v,Ha oi (yielded ops (a.put oj.dst v).tmps)=Ha oi (yielded ops a.tmps):=fun v=>wanted_put oi a oj.dst v p3;have com:∀ u v,(a.put oi.dst u).put oj.dst v=(a.put oj.dst v).put oi.dst u:=fun u v=>Act.put_comm a u v p2;by_cases hci:cl i=0∨cl i=3;rw [if_pos hci] at hb;obtain ⟨u,h1,h2,h3⟩:=hb;obtain ⟨v,k1,k2,k3⟩:=ih (a.put oi.dst u) w (Aoa.1 hs).2 hmr hrr h3;rw [waj] at k1 k2;rw [evj] at k1;refine ⟨v,k1,k2,?_⟩;rw [he];refine ⟨oi,hoi,?_⟩;rw [if_pos hci];refine ⟨u,?_,?_,?_⟩;rw [wai,evi];exact h1;rw [wai];exact h2;rw [← com];exact k3;rw [if_neg hci] at hb;by_cases hwi:Ha oi (yielded ops a.tmps)=true;rw [if_pos hwi] at hb
  have hgd:∀ w' w1,Gd cl lv W0 j w' w1↔(cl j=3∨G W0 w1):=by
   intro w' w1;unfold Gd;rcases hcj with hc|hc
   have hlj:lv j=false:=by
    cases hl:lv j with
    | false=>rfl
    | true =>
     have:=ok.fresh i j hlt (Ana.1 hj).1 hc hl (fun h=>hci (.inl h)) (fun h=>hci (.inr h));rw [this] at hw;cases hw
   rw [if_neg (by rw [hlj];simp)];simp [hc]
  have key:∀ u w',RS P Z ops cl lv W0 K rest (a.put oi.dst u) w'→∃ v,(Ha oj (yielded ops a.tmps)=true→∀ w1,(cl j=3∨G W0 w1)→(execOp a.eval oj).run P w1 = .ok (.value v) w1)∧
    (Ha oj (yielded ops a.tmps)=false→v=undef)∧RS P Z ops cl lv W0 K (rest.erase j) ((a.put oi.dst u).put oj.dst v) w':=by
   intro u w' h3
   obtain ⟨v,k1,k2,k3⟩:=ih (a.put oi.dst u) w' (Aoa.1 hs).2 hmr hrr h3
   rw [waj] at k1 k2
   rw [evj] at k1
   exact ⟨v,fun hh w1 hg=>k1 hh w1 ((hgd _ _).2 hg),k2,k3⟩
  obtain ⟨u0,w0',_,hn0⟩:=hb.some hZ;obtain ⟨v,k1,k2,_⟩:=key u0 w0' hn0;refine ⟨v,fun hh w1 hg=>k1 hh w1 ((hgd _ _).1 hg),k2,?_⟩;rw [he];refine ⟨oi,hoi,?_⟩;rw [if_neg hci,wai,if_pos hwi];refine hb.turn (evi v) (fun ch w' h=>absurd h (hZ _ _ _)) fun u w' _ h3=>?_;obtain ⟨v',q1,q2,q3⟩:=key u w' h3
  have hv:v'=v:=by
   cases hwj:Ha oj (yielded ops a.tmps) with
   | true =>
    have e1:=k1 hwj W0 (.inr (G.refl _));have e2:=q1 hwj W0 (.inr (G.refl _));rw [e1] at e2;injection e2 with e2 _;injection e2 with e2;exact e2.symm
   | false=>rw [k2 hwj,q2 hwj]
  subst hv;rw [← com];exact q3;rw [if_neg hwi] at hb;obtain ⟨v,k1,k2,k3⟩:=ih (a.put oi.dst undef) w (Aoa.1 hs).2 hmr hrr hb;rw [waj] at k1 k2;rw [evj] at k1;refine ⟨v,k1,k2,?_⟩;rw [he];refine ⟨oi,hoi,?_⟩;rw [if_neg hci,wai,if_neg hwi,← com];exact k3
theorem Wve(hZ:∀ ch a w,¬ Z ch a w)(ok:Okay ops cl lv wt){j:Nat}{oj:Oper}(hj:ops[j]? = some oj)(hcj:¬ (cl j=0∨cl j=3)) :
 ∀ (L:List Nat) (a:Act) (w:Aa),L.Pairwise (· < ·)→j∈L→(∀ i∈L,i<j→wt j i=false)→RS P Z ops cl lv W0 K L a w→
 if Ha oj (yielded ops a.tmps)=true then Eff P Z (cl j == 1) oj a w (fun a' w'=>RS P Z ops cl lv W0 K (L.erase j) a' w')
 else RS P Z ops cl lv W0 K (L.erase j) (a.put oj.dst undef) w:=by
 intro L
 induction L with
 | nil=>intro a w _ hm;cases hm
 | cons i rest ih =>
  intro a w hs hm hr h;obtain ⟨oi,hoi,hb⟩:=h;by_cases hij:i=j;subst hij;obtain rfl:oi=oj:=Option.some.inj (hoi.symm.trans hj);rw [if_neg hcj] at hb;simpa using hb
  have hmr:j∈rest:=by
   rcases Ata.1 hm with h|h;exact absurd h.symm hij;exact h
  have hlt:i<j:=(Aoa.1 hs).1 j hmr;have hrr:∀ k∈rest,k<j→wt j k=false:=fun k hk=>hr k (Ama _ hk);have hw:=hr i Aga hlt;obtain ⟨hap,hcc⟩:=ok.pair i j oi oj hlt hoi hj hw
  have hci:cl i=3∨cl i=0∧cl j=1:=by
   have hle:=ok.cls j;rcases hcc with h|h|⟨h,_,h2⟩;exact .inl h;exact absurd (.inr h) hcj;rcases h with h|h;exact .inr ⟨h,O⟩;exact absurd (.inl h) hcj
  have hci':cl i=0∨cl i=3:=by
   rcases hci with h|h;exact .inr h;exact .inl h.1
  obtain ⟨p1,p2,p3⟩:=Oper.apart_spec hap
  have he:(i::rest).erase j=i::rest.erase j:=by
   rw [Bza];simpa using hij
  have evj:∀ v,execOp (a.put oi.dst v).eval oj=execOp a.eval oj:=fun v=>execOp_put (ops:=ops) oj (fun cs b=>ok.sel j oj cs b hj) a oi.dst v p1;have waj:∀ v,Ha oj (yielded ops (a.put oi.dst v).tmps)=Ha oj (yielded ops a.tmps):=fun v=>wanted_put oj a oi.dst v p1;have evi:∀ v,execOp (a.put oj.dst v).eval oi=execOp a.eval oi:=fun v=>execOp_put (ops:=ops) oi (fun cs b=>ok.sel i oi cs b hoi) a oj.dst v p3;have wai:∀ v,Ha oi (yielded ops (a.put oj.dst v).tmps)=Ha oi (yielded ops a.tmps):=fun v=>wanted_put oi a oj.dst v p3;have com:∀ u v,(a.put oi.dst u).put oj.dst v=(a.put oj.dst v).put oi.dst u:=fun u v=>Act.put_comm a u v p2;rw [if_pos hci'] at hb;obtain ⟨u,h1,h2,h3⟩:=hb;have k:=ih (a.put oi.dst u) w (Aoa.1 hs).2 hmr hrr h3;rw [waj] at k
  have back:∀ x w',(cl j=1→G w w')→RS P Z ops cl lv W0 K (rest.erase j) ((a.put oi.dst u).put oj.dst x) w'→RS P Z ops cl lv W0 K ((i::rest).erase j) (a.put oj.dst x) w':=by
   intro x w' hg hk;rw [he];refine ⟨oi,hoi,?_⟩;rw [if_pos hci'];refine ⟨u,?_,?_,?_⟩;rw [wai,evi];intro hwi w1 hg1;refine h1 hwi w1 ?_;rcases hg1 with hg1|hg1;exact .inl hg1;rcases hci with hc|⟨_,hc⟩;exact .inl hc;refine .inr ?_;by_cases hl:lv i=true;rw [if_pos hl] at hg1 ⊢;exact (hg hc).trans hg1;rw [if_neg hl] at hg1 ⊢;exact hg1;rw [wai];exact h2;rw [← com];exact hk
  by_cases hwj:Ha oj (yielded ops a.tmps)=true;rw [if_pos hwj] at k ⊢;refine k.turn (evj u).symm (fun ch w' h=>absurd h (hZ _ _ _)) fun x w' hg hk=>back x w' (fun h=>hg (by simp [h])) hk;rw [if_neg hwj] at k ⊢;exact back _ _ (fun _=>G.refl _) k
structure Left (ops:Array Oper) (L:List Nat) (listed:Array Bool):Prop where
  size:listed.size=ops.size
  sorted:L.Pairwise (· < ·)
  mem:∀ i,i∈L↔i<ops.size∧listed.getD i true=false
  closed:∀ j oj,ops[j]? = some oj→j∉L→∀ e∈oj.after,Ia .any e=true→e.on∉L
theorem Left.waits(ok:Okay ops cl lv wt){L:List Nat}{listed:Array Bool}(hL:Left ops L listed) :
 ∀ (n j:Nat) (oj:Oper),j≤n→ops[j]? = some oj→(∀ e∈oj.after,Ia .any e=true→e.on∉L)→∀ i∈L,wt j i=false:=by
 intro n
 induction n with
 | zero =>
  intro j oj hjn hj _ i _
  cases hw:wt j i with
  | false=>rfl
  | true =>
   obtain ⟨e,he,hb,_⟩:=ok.way j oj i hj hw;have:=ok.lt j oj e hj he hb;omega
 | succ n ih =>
  intro j oj hjn hj hall i hi
  cases hw:wt j i with
  | false=>rfl
  | true =>
   obtain ⟨e,he,hb,hh⟩:=ok.way j oj i hj hw;have hlt:=ok.lt j oj e hj he hb;have hnot:=hall e he hb;rcases hh with rfl|hh;exact absurd hi hnot;have hes:e.on<ops.size:=by have:=(Ana.1 hj).1;omega
   have hoe:ops[e.on]? = some ops[e.on]:=Aqa hes;have:=ih e.on _ O hoe (hL.closed e.on _ hoe hnot) i hi;rw [this] at hh;cases hh
theorem Left.step{L:List Nat}{listed:Array Bool}(hL:Left ops L listed){j:Nat}{oj:Oper}(hj:ops[j]? = some oj)(hall:∀ e∈oj.after,Ia .any e=true→e.on∉L) :
 Left ops (L.erase j) (listed.setIfInBounds j true):=by
 have hjs:j<listed.size:=by rw [hL.size];exact (Ana.1 hj).1
 have nd:L.Nodup:=hL.sorted.imp (fun h=>Bna h);refine ⟨by simp [hL.size],hL.sorted.sublist List.erase_sublist,fun i=>?_,fun k ok' hk hkn e he hb=>?_⟩;rw [nd.mem_erase_iff,hL.mem];by_cases hij:i=j;subst hij;simp [hjs];rw [getD_set_ne true (fun h=>hij h.symm)];simp [hij];by_cases hkj:k=j;subst hkj;obtain rfl:ok'=oj:=Option.some.inj (hk.symm.trans hj);exact fun h=>hall e he hb (Awa h);have hkl:k∉L:=fun h=>hkn (nd.mem_erase_iff.2 ⟨hkj,h⟩);exact fun h=>hL.closed k ok' hk hkl e he hb (Awa h)
theorem Wwe{ρ:Option Nat}(hZ:∀ ch a w,¬ Z ch a w)(ok:Okay ops cl lv wt){Q:Exit→Act→Aa→Prop}(hQ:∀ a w,K a w→Q .normal a w) :
 ∀ (n:Nat) (L:List Nat) (listed:Array Bool) (a:Act) (w:Aa),L.length=n→Left ops L listed→(∀ i∈L,cl i=0→lv i=false→G W0 w)→RS P Z ops cl lv W0 K L a w→
 wpAnyIn (WF ρ) 0 P .any ops Q n listed a w:=by
 intro n
 induction n with
 | zero =>
  intro L listed a w hn hL hG h;obtain rfl:L=[]:=Caa hn;refine ⟨?_,hQ _ _ h⟩;refine Cba.2 fun j hj=>?_;obtain ⟨h0,o,ho,_⟩:=mem_ready.1 hj;have:=(hL.mem j).2 ⟨(Ana.1 ho).1,h0⟩;cases this
 | succ n ih =>
  intro L listed a w hn hL hG h
  have inL:∀ j,j∈Region.ready .any ops listed→∃ oj,ops[j]? = some oj∧j∈L∧∀ e∈oj.after,Ia .any e=true→e.on∉L:=by
   intro j hj;obtain ⟨h0,oj,ho,hall⟩:=mem_ready.1 hj;have hjs:=(Ana.1 ho).1;refine ⟨oj,ho,(hL.mem j).2 ⟨hjs,h0⟩,fun e he hb hm=>?_⟩;have h1:=hall e he hb;obtain ⟨h2,h3⟩:=(hL.mem e.on).1 hm;have h4:e.on<listed.size:=by rw [hL.size];exact h2
   simp [h4] at h1 h3;rw [h1] at h3;cases h3
  refine ⟨fun h0=>?_,fun j hj=>?_⟩;exfalso
  match L,hn,hL,h with
  | i::rest,_,hL,h =>
   obtain ⟨oi,hoi,_⟩:=h;have him:=(hL.mem i).1 Aga
   have:i∈Region.ready .any ops listed:=by
    refine mem_ready.2 ⟨him.2,oi,hoi,fun e he hb=>?_⟩;have hlt:=ok.lt i oi e hoi he hb
    have hno:e.on∉i::rest:=by
     intro hm;rcases Ata.1 hm with hm|hm;omega;have:=(Aoa.1 hL.sorted).1 _ hm;omega
    have hes:e.on<listed.size:=by rw [hL.size];omega
    cases hl:listed.getD e.on true with
    | false=>exact absurd ((hL.mem e.on).2 ⟨by rw [← hL.size];exact hes,hl⟩) hno
    | true=>simpa [hes] using hl
   rw [h0] at this;cases this
  obtain ⟨oj,hoj,hjL,hall⟩:=inL j hj;have hws:∀ i∈L,wt j i=false:=hL.waits ok j j oj (Ala _) hoj hall;have hL':=hL.step hoj hall;have hlen:(L.erase j).length=n:=by rw [Bca hjL];omega
  have nd:L.Nodup:=hL.sorted.imp (fun h=>Bna h);unfold wpOpIn;simp only [hoj];by_cases hc:cl j=0∨cl j=3;obtain ⟨v,h1,h2,h3⟩:=Qie hZ ok hoj hc L a w hL.sorted hjL (fun i hi _=>hws i hi) h;have hG':∀ i∈L.erase j,cl i=0→lv i=false→G W0 w:=fun i hi=>hG i (Awa hi);have hnext:=ih (L.erase j) _ (a.put oj.dst v) w hlen hL' hG' h3;by_cases hwj:Ha oj (yielded ops a.tmps)=true;rw [if_pos hwj]
  have hr:=h1 hwj w (by
   rcases hc with hc|hc;refine .inr ?_;by_cases hl:lv j=true;rw [if_pos hl];exact G.refl _;rw [if_neg hl];exact hG j hjL hc (by simpa using hl);exact .inl hc)
  refine ⟨fun _ _=>trivial,?_⟩;rw [Usa hr (fun d h=>by cases h),hr];exact hnext;rw [if_neg hwj];have:=h2 (by simpa using hwj);subst this;exact ⟨fun _ _=>trivial,hnext⟩;have h1:=Wve hZ ok hoj hc L a w hL.sorted hjL (fun i hi _=>hws i hi) h
  have hG':∀ w',(cl j=1→G w w')→∀ i∈L.erase j,cl i=0→lv i=false→G W0 w':=by
   intro w' hg i hi hci hl;obtain ⟨hij,hiL⟩:=nd.mem_erase_iff.1 hi;have his:=((hL.mem i).1 hiL).1;have hjs:=((hL.mem j).1 hjL).1
   have hc1:cl j=1:=by
    have hle:=ok.cls j
    have hne:cl j≠2:=by
     intro h2;rcases Boa i j with hlt|hge;have:=(ok.pair i j ops[i] oj hlt (Aqa his) hoj (hws i hiL)).2;rcases this with h|h|h;omega;omega;exact h.2.2 h2;exact ok.stale j i O his hci hl h2
    omega
   exact (hG i hiL hci hl).trans (hg hc1)
  by_cases hwj:Ha oj (yielded ops a.tmps)=true;rw [if_pos hwj] at h1 ⊢;refine Eff.wpIn (Z:=Z) (gr:=cl j == 1) ?_ (fun ch w' h=>absurd h (hZ _ _ _));refine h1.turn rfl (fun _ _ h=>h) fun v w' hg hk=>?_;exact ih (L.erase j) _ _ w' hlen hL' (hG' w' fun e=>hg (by simp [e])) hk;rw [if_neg hwj] at h1 ⊢;exact ⟨fun _ _=>trivial,ih (L.erase j) _ _ w hlen hL' (fun i hi=>hG i (Awa hi)) h1⟩
theorem Wec(ops:Array Oper):Left ops (Aea ops.size) (Axa ops.size false):=by
 refine ⟨by simp,List.pairwise_lt_range,fun i=>?_,fun j oj hj hn=>?_⟩;rw [List.mem_range];constructor;intro h;exact ⟨h,by simp [h]⟩;exact fun h=>h.1;exact absurd (List.mem_range.2 (Ana.1 hj).1) hn
theorem Wxe{ρ:Option Nat}(hZ:∀ ch a w,¬ Z ch a w)(ok:Okay ops cl lv wt){id:Nat}{Q:Exit→Act→Aa→Prop}{a:Act}{w:Aa}(hm:P.follows .mixedOrders=true)
 (h:RS P Z ops cl lv w.drew (fun a w=>Q .normal a w) (Aea ops.size) a w.drew):(Code.region id ops true).wpIn (WF ρ) 0 P Q a w:=by
 refine wpIn_region_any hm ?_;have:=Wwe (Q:=Q) (ρ:=ρ) hZ ok (fun _ _ h=>h) (Aea ops.size).length (Aea ops.size) (Axa ops.size false) a w.drew rfl (Wec ops) (fun _ _ _ _=>G.refl _) h;simpa using this
theorem Wuf(ok:Okay ops cl lv wt){id:Nat}{Q:Exit→Act→Aa→Prop}{a:Act}{w:Aa}(hm:P.follows .mixedOrders=true)
  (h:RS P NoP ops cl lv w.drew (fun a w=>Q .normal a w) (Aea ops.size) a w.drew):(Code.region id ops true).wp P Q a w :=
 wpIn_wide.1 (Wxe (ρ:=none) (fun _ _ _ h=>h) ok hm h)
theorem Xsa{ρ:Option Nat}{Q:Exit→Act→Aa→Prop}(hZ:∀ ch a w,Z ch a w→Q (.panic ch) a w):∀ (L:List Nat) (a:Act) (w:Aa),RS P Z ops cl (fun _=>true) W0 (fun a w=>Q .normal a w) L a w→wpOpsIn (WF ρ) 0 P ops Q L a w
 | [],_,_,h=>h
 | i::rest,a,w,h=>by
  obtain ⟨o,ho,hb⟩:=h;unfold wpOpsIn;simp only [ho];by_cases hw:Ha o (yielded ops a.tmps)=true;rw [if_pos hw];by_cases hc:cl i=0∨cl i=3;rw [if_pos hc] at hb;obtain ⟨v,h1,_,h3⟩:=hb;have hr:=h1 hw w (.inr (by rw [if_pos rfl];exact G.refl _));refine ⟨fun _ _=>trivial,?_⟩;rw [Usa hr (fun d h=>by cases h),hr];exact Xsa hZ rest _ _ h3;rw [if_neg hc,if_pos hw] at hb;exact Eff.wpIn (hb.turn rfl (fun _ _ h=>h) fun v w' _ hk=>Xsa hZ rest _ _ hk) (fun ch w' h=>hZ _ _ _ h);rw [if_neg hw];refine ⟨fun _ _=>trivial,?_⟩;by_cases hc:cl i=0∨cl i=3;rw [if_pos hc] at hb;obtain ⟨v,_,h2,h3⟩:=hb;have:=h2 (by simpa using hw);subst this;exact Xsa hZ rest _ _ h3;rw [if_neg hc,if_neg hw] at hb;exact Xsa hZ rest _ _ hb
theorem Zcc{ρ:Option Nat}{id:Nat}{Q:Exit→Act→Aa→Prop}{a:Act}{w:Aa}(hZ:∀ ch a w,Z ch a w→Q (.panic ch) a w)(h:RS P Z ops cl (fun _=>true) W0 (fun a w=>Q .normal a w) (Aea ops.size) a w) :
  (Code.region id ops false).wpIn (WF ρ) 0 P Q a w:=wpIn_region (Xsa hZ _ _ _ h)
theorem Wvf{id:Nat}{Q:Exit→Act→Aa→Prop}{a:Act}{w:Aa}(h:RS P NoP ops cl (fun _=>true) W0 (fun a w=>Q .normal a w) (Aea ops.size) a w) :
  (Code.region id ops false).wp P Q a w:=wpIn_wide.1 (Zcc (ρ:=none) (fun _ _ _ h=>h.elim) h)
end
/-! A look at the region's text, by reckoning. -/
def clOf(cl:List Nat)(i:Nat):Nat:=cl.getD i 0
def lvOf(lv:List Bool)(i:Nat):Bool:=lv.getD i true
def wtOf(ms:List Nat)(j i:Nat):Bool:=(ms.getD j 0).testBit i
def maskOf(ms:List Nat):List Edge→Nat
 | []=>0
 | e::r=>if Ia .any e=true then (2 ^ e.on) ||| (ms.getD e.on 0) ||| maskOf ms r else maskOf ms r
def Yae(o:Oper):Bool:=match o.op with | .select ..=>false|_=>true
def Jda(ops:Array Oper)(cl:List Nat)(lv:List Bool)(ms:List Nat)(E:List (Nat×Oper×Nat))(k:Nat)(o:Oper):Bool :=
 Yae o&&Aja (clOf cl k) 3&&o.after.toList.all (fun e=>!Ia .any e || Aba e.on k)&&Aaa (ms.getD k 0) (maskOf ms o.after.toList) &&
 E.all (fun p=>(ms.getD k 0).testBit p.1 || (p.2.1.apart ops o&&(Aaa p.2.2 3 || Aaa (clOf cl k) 3 || (Aaa p.2.2 0 || Aaa (clOf cl k) 0) && !Aaa p.2.2 2 && !Aaa (clOf cl k) 2))) &&
 (!Aaa (clOf cl k) 0 || if lvOf lv k=true then E.all (fun p=>Aaa p.2.2 0 || Aaa p.2.2 3 || (ms.getD k 0).testBit p.1) else E.all (fun p=>!Aaa p.2.2 2))
def Qhb(ops:Array Oper)(cl:List Nat)(lv:List Bool)(ms:List Nat):List (Nat×Oper×Nat)→Nat→List Oper→Bool
 | _,_,[]=>true
 | E,k,o::rest=>Jda ops cl lv ms E k o&&Qhb ops cl lv ms ((k,o,clOf cl k)::E) (k+1) rest
def okB(l:List Oper)(cl:List Nat)(lv:List Bool)(ms:List Nat):Bool :=
 Qhb l.toArray cl lv ms [] 0 l&&Aja cl.length l.length&&Aja ms.length l.length
theorem Wob(ms:List Nat)(i:Nat):∀ (l:List Edge),(maskOf ms l).testBit i=true→∃ e,e∈l∧Ia .any e=true∧(e.on=i∨wtOf ms e.on i=true)
 | [],h=>by simp [maskOf] at h
 | e::r,h=>by
  unfold maskOf at h;by_cases hb:Ia .any e=true;rw [if_pos hb,Nat.testBit_or,Nat.testBit_or,Apa,Apa] at h;rcases h with (h|h)|h;refine ⟨e,Aga,hb,.inl ?_⟩;rw [Nat.testBit_two_pow] at h;simpa using h;exact ⟨e,Aga,hb,.inr h⟩;obtain ⟨e',h1,h2⟩:=Wob ms i r h;exact ⟨e',Ama _ h1,h2⟩;rw [if_neg hb] at h;obtain ⟨e',h1,h2⟩:=Wob ms i r h;exact ⟨e',Ama _ h1,h2⟩
theorem Vrb(ops:Array Oper)(cl:List Nat)(lv:List Bool)(ms:List Nat):∀ (l:List Oper) (E:List (Nat×Oper×Nat)) (k:Nat),
  (∀ j,l[j]? = ops[k+j]?)→(∀ i,i<k→∃ oi,ops[i]? = some oi∧(i,oi,clOf cl i)∈E)→Qhb ops cl lv ms E k l=true→
  ∀ j oj,k≤j→ops[j]? = some oj→∃ E',(∀ i,i<j→∃ oi,ops[i]? = some oi∧(i,oi,clOf cl i)∈E')∧Jda ops cl lv ms E' j oj=true
 | [],_,k,hl,_,_=>by
  intro j oj hkj hj;have:=hl (j-k);rw [show k+(j-k)=j by omega,hj] at this;simp at this
 | o::rest,E,k,hl,hE,h=>by
  intro j oj hkj hj;unfold Qhb at h;rw [Aca] at h;have h0:ops[k]? = some o:=by simpa using (hl 0).symm
  by_cases hjk:j=k;subst hjk;obtain rfl:o=oj:=Option.some.inj (h0.symm.trans hj);exact ⟨E,hE,h.1⟩;refine Vrb ops cl lv ms rest ((k,o,clOf cl k)::E) (k+1) (fun j=>by have:=hl (j+1);simpa [Bpa,Nat.add_comm 1 j] using this) ?_ h.2 j oj O hj;intro i hi;by_cases hik:i=k;subst hik;exact ⟨o,h0,Aga⟩;obtain ⟨oi,h1,h2⟩:=hE i O;exact ⟨oi,h1,Ama _ h2⟩
theorem Wwf{l:List Oper}{cl:List Nat}{lv:List Bool}{ms:List Nat}(h:okB l cl lv ms=true):Okay l.toArray (clOf cl) (lvOf lv) (wtOf ms):=by
 unfold okB at h;rw [Aca,Aca] at h;obtain ⟨⟨h,hcl⟩,hml⟩:=h;have S:=Vrb l.toArray cl lv ms l [] 0 Os (fun i hi=>absurd hi O) h;have at_:∀ j oj,l.toArray[j]? = some oj→∃ E',(∀ i,i<j→∃ oi,l.toArray[i]? = some oi∧(i,oi,clOf cl i)∈E')∧Jda l.toArray cl lv ms E' j oj=true:=fun j oj hj=>S j oj (Nat.zero_le _) hj
 have hsize:∀ j,l.toArray.size≤j→clOf cl j=0∧ms.getD j 0=0:=by
  intro j hj;have h1:=Aha hcl;have h2:=Aha hml;simp only [Bda] at hj;constructor;unfold clOf;rw [Bqa,Cca O];rfl;rw [Bqa,Cca O];rfl
 refine ⟨?_,?_,?_,?_,?_,?_,?_⟩;intro j o cs b hj heq;obtain ⟨E',_,hh⟩:=at_ j o hj;simp [Jda,Yae,heq] at hh;intro j o i hj hw;obtain ⟨E',_,hh⟩:=at_ j o hj;simp only [Jda,Aca] at hh;have hm:=Ada hh.1.1.2;unfold wtOf at hw;rw [hm] at hw;obtain ⟨e,h1,h2⟩:=Wob ms i _ hw;exact ⟨e,Bea.1 h1,h2⟩;intro j o e hj he hb;obtain ⟨E',_,hh⟩:=at_ j o hj;simp only [Jda,Aca,Aia,Bea,Apa,Bool.not_eq_true'] at hh;rcases hh.1.1.1.2 e he with h1|h1;rw [hb] at h1;cases h1;exact Aha h1;intro i j oi oj hij hi hj hw;obtain ⟨E',hE,hh⟩:=at_ j oj hj;simp only [Jda,Aca,Aia,Apa] at hh;obtain ⟨oi',h1,h2⟩:=hE i hij;obtain rfl:oi'=oi:=Option.some.inj (h1.symm.trans hi);rcases hh.1.2 _ h2 with h3|h3;unfold wtOf at hw;rw [h3] at hw;cases hw;obtain ⟨a1,h4⟩:=h3;refine ⟨a1,?_⟩;rcases h4 with (h4|h4)|h4;exact .inl (Ada h4);exact .inr (.inl (Ada h4));obtain ⟨⟨a2,a3⟩,a4⟩:=h4;refine .inr (.inr ⟨?_,?_,?_⟩);rcases a2 with a2|a2;exact .inl (Ada a2);exact .inr (Ada a2);intro h;dsimp only at a3;rw [h] at a3;simp at a3;intro h;rw [h] at a4;simp at a4;intro i;rcases Boa i l.toArray.size with hi|hi;obtain ⟨E',_,hh⟩:=at_ i _ (Aqa hi);simp only [Jda,Aca] at hh;exact Aha hh.1.1.1.1.2;rw [(hsize i hi).1];omega;intro i j hij hj hcj hl hc hc3;obtain ⟨E',hE,hh⟩:=at_ j _ (Aqa hj);obtain ⟨oi,h1,h2⟩:=hE i hij;simp only [Jda,Aca] at hh;have h3:=hh.2;rw [hcj,hl] at h3
 simp only [Bfa,Bool.not_true,Bra,if_true,Aia,Apa] at h3;rcases h3 _ h2 with (h3|h3)|h3;exact absurd (Ada h3) hc;exact absurd (Ada h3) hc3;exact h3;intro i j hij hj hcj hl hc;obtain ⟨E',hE,hh⟩:=at_ j _ (Aqa hj);obtain ⟨oi,h1,h2⟩:=hE i hij;simp only [Jda,Aca] at hh;have h3:=hh.2;rw [hcj,hl] at h3;simp only [Bfa,Bool.not_true,Bra] at h3;rw [if_neg Os] at h3;have h4:=Aia.1 h3 _ h2;dsimp only at h4;rw [hc] at h4;simp at h4
abbrev Ent:=Nat×Prop×Ga
def look:List Ent→Nat→Option (Prop×Ga)
 | [],_=>none
 | (k,c,v)::r,t=>bif Aaa k t then some (c,v) else look r t
def Kn(n:Nat)(σ:List Ent)(a:Act):Prop :=
 a.tmps.size=n∧a.defers=[]∧∀ t c v,look σ t=some (c,v)→(c→a.tmps[t]? = some v)∧(¬ c→a.tmps[t]? = some undef)
def Ev(n:Nat)(σ:List Ent)(c:Prop)(x:Ea)(v:Ga):Prop:=∀ a,Kn n σ a→c→a.eval x=v
theorem Znb(a:Act)(v:Ga):a.eval (.const v)=v:=rfl
theorem Kn.at_{n:Nat}{σ:List Ent}{a:Act}(h:Kn n σ a){t:Nat}{c:Prop}{v:Ga}(hl:look σ t=some (c,v))(hc:c):a.tmps[t]? = some v:=(h.2.2 t c v hl).1 hc
section
variable {n:Nat} {σ:List Ent} {c:Prop} {v:Ga}
theorem Zd{t:Nat}(h:look σ t=some (True,v)):Ev n σ c (.tmp t) v:=fun a ha _=>by
 simp [Act.eval,ha.at_ h trivial]
theorem Zp{t:Nat}{c':Prop}(h:look σ t=some (c',v))(hc:c→c'):Ev n σ c (.tmp t) v:=fun a ha h1=>by
 simp [Act.eval,ha.at_ h (hc h1)]
theorem Xa:Ev n σ c (.const v) v:=fun _ _ _=>rfl
theorem Jea{g:Nat}:Ev n σ c (.global g) (.pointer (some ⟨g,0,none⟩)):=fun _ _ _=>rfl
theorem Xy{f:Nat}:Ev n σ c (.func f) (.func (.func f) #[] #[]):=fun _ _ _=>rfl
theorem Ev.to{x:Ea}{v':Ga}(h:Ev n σ c x v)(e:c→v=v'):Ev n σ c x v':=fun a ha hc=>(h a ha hc).trans (e hc)
end
theorem Kn.put{n:Nat}{σ:List Ent}{a:Act}(h:Kn n σ a){d:Nat}(hd:Aba d n=true){c:Prop}{v v':Ga}(h1:c→v'=v)(h2:¬ c→v'=undef) :
 Kn n ((d,c,v) :: σ) (a.put (some d) v'):=by
 have hd':d<n:=Aha hd;refine ⟨by simp [Act.put,h.1],h.2.1,fun t c' u hl=>?_⟩;unfold look at hl;by_cases ht:d=t;subst ht;simp only [Bfa,Wug] at hl;injection hl with hl;injection hl with e1 e2;subst e1;subst e2;have hs:d<a.tmps.size:=by rw [h.1];exact hd'
 simp only [Act.put];rw [Array.getElem?_setIfInBounds_self_of_lt hs];exact ⟨fun hc=>by rw [h1 hc],fun hc=>by rw [h2 hc]⟩
 have:Aaa d t=false:=by
  cases hb:Aaa d t with
  | false=>rfl
  | true=>exact absurd (Ada hb) ht
 rw [this] at hl;simp only [Wtg] at hl;simp only [Act.put];rw [Array.getElem?_setIfInBounds_ne ht];exact h.2.2 t c' u hl
def Sub(τ σ:List Ent):Prop:=∀ t c v,look τ t=some (c,v)→look σ t=some (c,v)
theorem Zr(σ:List Ent):Sub [] σ:=fun _ _ _ h=>by simp [look] at h
theorem Za{t:Nat}{c:Prop}{v:Ga}{τ σ:List Ent}(h:look σ t=some (c,v))(k:Sub τ σ):Sub ((t,c,v) :: τ) σ:=fun u c' v' hl=>by
 unfold look at hl
 cases hb:Aaa t u with
 | true =>
  rw [hb] at hl;obtain rfl:=Ada hb;simp only [Wug] at hl;injection hl with hl;injection hl with e1 e2;subst e1;subst e2;exact h
 | false=>rw [hb] at hl;exact k u c' v' hl
theorem Kn.sub{n:Nat}{τ σ:List Ent}{a:Act}(h:Kn n σ a)(k:Sub τ σ):Kn n τ a:=⟨h.1,h.2.1,fun t c v hl=>h.2.2 t c v (k t c v hl)⟩
/-! ## Operations that read -/
structure Rd (P:Fa) (n:Nat) (σ:List Ent) (c:Prop) (wb:Aa) (op:Op) (ty:Ba) (v:Ga):Prop where mk ::
  h:∀ (d:Option Tmp) (pos:String) (after:Array Edge) (g:Option (Nat×Bool)) (a:Act),Kn n σ a→c→∀ w1,G wb w1→(execOp a.eval ⟨d,op,ty,pos,after,g⟩).run P w1 = .ok (.value v) w1
instance {P:Fa} {n:Nat} {σ:List Ent} {c:Prop} {wb:Aa} {op:Op} {ty:Ba} {v:Ga}:CoeFun (Rd P n σ c wb op ty v) fun _=>∀ (d:Option Tmp) (pos:String) (after:Array Edge) (g:Option (Nat×Bool)) (a:Act),Kn n σ a→c→∀ w1,G wb w1→(execOp a.eval ⟨d,op,ty,pos,after,g⟩).run P w1 = .ok (.value v) w1:=⟨Rd.h⟩
def Va(P:Fa)(t:Ba):Bool:=match P.underlying t with|some (.struct _)=>false|some (.array _ _)=>false|some _=>true|none=>false
def tyAgg(P:Fa)(t:Ba):Option Nat:=match P.underlying t,P.info? t with|some (.struct _),some i=>some i.size|some (.array _ _),some i=>some i.size|_,_=>none
def tySize(P:Fa)(t:Ba):Option Nat:=(P.info? t).map (·.size)
def tyElem(P:Fa)(t:Ba):Option (Ba×Nat×Nat):=match P.underlying t with|some (.slice e)=>(P.info? e).map fun i=>(e,i.size,i.bytes)|_=>none
def Vka(P:Fa)(t:Ba):Bool:=match P.underlying t with|some .string=>true|_=>false
def Yp(P:Fa)(s:Ba)(k:Nat):Option Nat:=match P.underlying s with
 | some (.struct fs)=>match fs[k]? with
  | some f=>match P.info? f.type with
   | some i=>if i.size=0 then none else some f.offset
   | none=>none
  | none=>none
 | _=>none
def Qib(P:Fa)(s:Ba)(k:Nat):Option (Nat×Option Nat):=match P.underlying s with
 | some (.struct fs)=>match fs[k]? with
  | some f=>if Va P f.type=true then some (f.offset,none) else (tyAgg P f.type).map fun z=>(f.offset,some z)
  | none=>none
 | _=>none
def RowAt(w:Aa)(b o:Nat)(l:List Ga):Prop:=∀ j v,l[j]? = some v→w.cell? ⟨b,o+j,none⟩=some v
theorem Jla{w w1:Aa}(h:G w w1){a:Addr}{v:Ga}(hc:w.cell? a=some v):w1.cell? a=some v:=(Below.cell h (World.block_lt_of_cell? w a hc)).trans hc
theorem RowAt.grow{w w1:Aa}{b o:Nat}{l:List Ga}(h:RowAt w b o l)(hg:G w w1):RowAt w1 b o l:=fun j v hj=>Jla hg (h j v hj)
theorem RowAt.part{w:Aa}{b o:Nat}{l:List Ga}(h:RowAt w b o l)(i m:Nat):RowAt w b (o+i) ((l.drop i).take m):=fun j v hj=>by
 rw [Bsa] at hj;split at hj;rw [List.getElem?_drop] at hj;have:=h (i+j) v hj;rwa [← Bpa] at this;cases hj
theorem RowAt.one{w:Aa}{b o:Nat}{l:List Ga}(h:RowAt w b o l){i:Nat}{v:Ga}(hi:l[i]? = some v):w.cell? ⟨b,o+i,none⟩=some v:=h i v hi
section
variable {P:Fa} {n:Nat} {σ:List Ent} {c:Prop} {wb:Aa} {ty:Ba}
theorem Zw{x:Ea}{v:Ga}(h:Ev n σ c x v):Rd P n σ c wb (.move x) ty v:=.mk fun d pos after g a ha hc w1 _=>by
 simp [execOp,h a ha hc]
theorem Jc{x:Ea}{v:Ga}(h:Ev n σ c x v):Rd P n σ c wb (.assign x) ty v:=.mk fun d pos after g a ha hc w1 _=>by
 simp [execOp,h a ha hc]
theorem Zna{x:Ea}{b:Addr}(h:Ev n σ c x (.pointer (some b))):Rd P n σ c wb (.nilCheck x) ty (.pointer (some b)):=.mk fun d pos after g a ha hc w1 _=>by
 simp [execOp,h a ha hc]
theorem Yn{x y:Ea}{g y':Bool}(h:Ev n σ c x (.bool g))(h1:Ev n σ (c∧g=true) y (.bool y')):Rd P n σ c wb (.pick x y (.const (.bool false))) ty (.bool (g&&y')):=.mk fun d pos after gd a ha hc w1 _=>by
 cases g with
 | false=>simp [execOp,h a ha hc,asBool,Znb]
 | true=>simp [execOp,h a ha hc,asBool,h1 a ha ⟨hc,rfl⟩]
theorem Xd{x y:Ea}{g y':Bool}(h:Ev n σ c x (.bool g))(h1:Ev n σ (c∧g=false) y (.bool y')):Rd P n σ c wb (.pick x (.const (.bool true)) y) ty (.bool (g || y')):=.mk fun d pos after gd a ha hc w1 _=>by
 cases g with
 | true=>simp [execOp,h a ha hc,asBool,Znb]
 | false=>simp [execOp,h a ha hc,asBool,h1 a ha ⟨hc,rfl⟩]
theorem Zi{s k off b o:Nat}{x:Ea}(hf:Yp P s k=some off)(h:Ev n σ c x (.pointer (some ⟨b,o,none⟩))) :
 Rd P n σ c wb (.fieldAddr s x k) ty (.pointer (some ⟨b,o+off,none⟩)):=.mk fun d pos after gd a ha hc w1 _=>by
 unfold Yp at hf;split at hf;rename_i fs hs;split at hf;rename_i f hk;split at hf;rename_i i hi;split at hf;cases hf;rename_i hz;injection hf with hf;subst hf;simp [execOp,h a ha hc,Instr.fieldAt,run_underlying hs,hk,Instr.sureAddr,fieldPlace,sizeOf,typeInfo,hi,hz,Addr.add_lit];cases hf;cases hf;cases hf
theorem Ywc{t:Ba}(ht:Va P t=true){w:Aa}{ad:Addr}{v:Ga}(hc:w.cell? ad=some v):(loadVar t ad).run P w = .ok v w:=by
 unfold Va at ht;split at ht <;> try (cases ht;done)
 rename_i d hd1 hd2 hd
 have:(isAgg t).run P w = .ok false w:=by
  simp only [isAgg,Sem.run_bind,run_underlying hd,Ka];rfl
 simp [loadVar,this,hc]
theorem Yxc{t:Ba}{z:Nat}(ht:tyAgg P t=some z){w:Aa}{b o:Nat}{l:List Ga}(hl:l.length=z)(hc:RowAt w b o l) :
 (loadVar t ⟨b,o,none⟩).run P w = .ok (.agg l.toArray) w:=by
 have:(isAgg t).run P w = .ok true w∧(sizeOf t).run P w = .ok z w:=by
  unfold tyAgg at ht;split at ht;rename_i fs i hs hi;injection ht with ht;constructor;simp only [isAgg,Sem.run_bind,run_underlying hs,Ka];rfl;simp [sizeOf,typeInfo,hi,ht];rename_i fs m i hs hi;injection ht with ht;constructor;simp only [isAgg,Sem.run_bind,run_underlying hs,Ka];rfl;simp [sizeOf,typeInfo,hi,ht];cases ht
 have hload:=run_loadCells_list (P:=P) (w:=w) ⟨b,o,none⟩ l (fun j v hj=>by rw [Addr.add_lit];exact hc j v hj);rw [hl] at hload;simp [loadVar,this.1,this.2,hload]
theorem Zq{t b o:Nat}{x:Ea}{v:Ga}(ht:Va P t=true)(h:Ev n σ c x (.pointer (some ⟨b,o,none⟩)))(hc:c→wb.cell? ⟨b,o,none⟩=some v) :
 Rd P n σ c wb (.load t x) ty v:=.mk fun d pos after gd a ha hc' w1 hg=>by
 simp [execOp,h a ha hc',Instr.loadAt,Instr.sureAddr,Ywc ht (Jla hg (hc hc'))]
theorem Zo{t b o z:Nat}{x:Ea}{l:List Ga}(ht:tyAgg P t=some z)(h:Ev n σ c x (.pointer (some ⟨b,o,none⟩)))(hl:l.length=z)(hc:c→RowAt wb b o l) :
 Rd P n σ c wb (.load t x) ty (.agg l.toArray):=.mk fun d pos after gd a ha hc' w1 hg=>by
 simp [execOp,h a ha hc',Instr.loadAt,Instr.sureAddr,Yxc ht hl ((hc hc').grow hg)]
theorem Qje{s k off:Nat}{x:Ea}{cs:Array Ga}{v:Ga}(hf:Qib P s k=some (off,none))(h:Ev n σ c x (.agg cs))(hv:cs[off]? = some v) :
 Rd P n σ c wb (.field s x k) ty v:=.mk fun d pos after gd a ha hc w1 _=>by
 unfold Qib at hf;split at hf
 ·rename_i fs hs
  split at hf
  ·rename_i f hk
   split at hf
   ·rename_i hone
    simp only [Option.some.injEq,Prod.mk.injEq,and_true] at hf;subst hf
    have:(isAgg f.type).run P w1 = .ok false w1:=by
     unfold Va at hone;split at hone <;> try (cases hone;done)
     rename_i d hd1 hd2 hd;simp only [isAgg,Sem.run_bind,run_underlying hd,Ka];rfl
    simp [execOp,h a ha hc,Instr.field,run_underlying hs,hk,part,asAgg,this,hv]
   · cases hq:tyAgg P f.type <;> simp [hq] at hf
  · cases hf
 · cases hf
theorem Qke{s k off z:Nat}{x:Ea}{cs:Array Ga}{l:List Ga}(hf:Qib P s k=some (off,some z))(h:Ev n σ c x (.agg cs))(hv:(cs.extract off (off+z))=l.toArray) :
 Rd P n σ c wb (.field s x k) ty (.agg l.toArray):=.mk fun d pos after gd a ha hc w1 _=>by
 unfold Qib at hf;split at hf;rename_i fs hs;split at hf;rename_i f hk;split at hf;simp at hf
 cases hq:tyAgg P f.type with
 | none=>simp [hq] at hf
 | some z' =>
  simp only [hq,Ara,Option.some.injEq,Prod.mk.injEq] at hf;obtain ⟨rfl,rfl⟩:=hf
  have:(isAgg f.type).run P w1 = .ok true w1∧(sizeOf f.type).run P w1 = .ok z' w1:=by
   unfold tyAgg at hq;split at hq;rename_i fs i hs hi;injection hq with ht;constructor;simp only [isAgg,Sem.run_bind,run_underlying hs,Ka];rfl;simp [sizeOf,typeInfo,hi,ht];rename_i fs m i hs hi;injection hq with ht;constructor;simp only [isAgg,Sem.run_bind,run_underlying hs,Ka];rfl;simp [sizeOf,typeInfo,hi,ht];cases hq
  simp [execOp,h a ha hc,Instr.field,run_underlying hs,hk,part,asAgg,this.1,this.2,hv]
 cases hf;cases hf
theorem Uta{x:Ea}{i:Nat}{vs:Array Ga}{v:Ga}(h:Ev n σ c x (.tuple vs))(hv:vs[i]? = some v):Rd P n σ c wb (.extract x i) ty v:=.mk fun d pos after gd a ha hc w1 _=>by
 simp [execOp,h a ha hc,Instr.extract,hv]
/-! integers -/
theorem Wfc{x:Int}(h : -9223372036854775808≤x∧x≤9223372036854775807):IntKind.i64.wrap x=x:=by
 rw [IntKind.wrap_i64];omega
theorem Yub{op:BinOp}{t u:Ba}{x y:Ea}{k:IntKind}{i j r:Int}(h:Ev n σ c x (.int k i))(h':Ev n σ c y (.int k j))
 (hr:c→Op.intArith op k i j=pure (.int k r)) (ho:op = .add∨op = .sub∨op = .mul):Rd P n σ c wb (.binOp op t x y u) ty (.int k r):=.mk fun d pos after gd a ha hc w1 _=>by
 rcases ho with rfl|rfl|rfl <;> simp [execOp,h a ha hc,h' a ha hc,eqGuard_at_int,binOp,hr hc]
theorem Ukb{t u:Ba}{x y:Ea}{i j:Int}(h:Ev n σ c x (.int .i64 i))(h':Ev n σ c y (.int .i64 j))(hr:c→-9223372036854775808≤i+j∧i+j≤9223372036854775807) :
  Rd P n σ c wb (.binOp .add t x y u) ty (.int .i64 (i+j)):=Yub h h' (fun hc=>by simp [Op.intArith,Wfc (hr hc)]) (.inl rfl)
theorem Xca{t u:Ba}{x y:Ea}{i j:Int}(h:Ev n σ c x (.int .i64 i))(h':Ev n σ c y (.int .i64 j))(hr:c→-9223372036854775808≤i-j∧i-j≤9223372036854775807) :
  Rd P n σ c wb (.binOp .sub t x y u) ty (.int .i64 (i-j)):=Yub h h' (fun hc=>by simp [Op.intArith,Wfc (hr hc)]) (.inr (.inl rfl))
theorem Wxf{t u:Ba}{x y:Ea}{k:IntKind}{i j:Int}(h:Ev n σ c x (.int k i))(h':Ev n σ c y (.int k j)) :
  Rd P n σ c wb (.binOp .add t x y u) ty (.int k (k.wrap (i+j))):=Yub h h' (fun hc=>by simp [Op.intArith]) (.inl rfl)
theorem Ybe{t u:Ba}{x y:Ea}{k:IntKind}{i j:Int}(h:Ev n σ c x (.int k i))(h':Ev n σ c y (.int k j)) :
  Rd P n σ c wb (.binOp .sub t x y u) ty (.int k (k.wrap (i-j))):=Yub h h' (fun hc=>by simp [Op.intArith]) (.inr (.inl rfl))
theorem Wyf{t u:Ba}{x y:Ea}{k:IntKind}{i j:Int}(h:Ev n σ c x (.int k i))(h':Ev n σ c y (.int k j)) :
  Rd P n σ c wb (.binOp .mul t x y u) ty (.int k (k.wrap (i*j))):=Yub h h' (fun hc=>by simp [Op.intArith]) (.inr (.inr rfl))
theorem Wzf{t u:Ba}{x y:Ea}{k:IntKind}{i j:Int}(h:Ev n σ c x (.int k i))(h':Ev n σ c y (.int k j))(hz:c→j≠0) :
 Rd P n σ c wb (.binOp .rem t x y u) ty (.int k (i.tmod j)):=.mk fun d pos after gd a ha hc w1 _=>by
 simp [execOp,h a ha hc,h' a ha hc,eqGuard_at_int,binOp,Op.intDiv,hz hc]
theorem Zoa{t u:Ba}{x y:Ea}{k:IntKind}{i j:Int}(h:Ev n σ c x (.int k i))(h':Ev n σ c y (.int k j)):Rd P n σ c wb (.binOp .eql t x y u) ty (.bool (decide (i=j))):=.mk fun d pos after gd a ha hc w1 _=>by
 simp [execOp,h a ha hc,h' a ha hc,eqGuard_at_int,binOp,Op.intCmp];rfl
theorem Yka{t u:Ba}{x y:Ea}{k:IntKind}{i j:Int}(h:Ev n σ c x (.int k i))(h':Ev n σ c y (.int k j)):Rd P n σ c wb (.binOp .neq t x y u) ty (.bool (!decide (i=j))):=.mk fun d pos after gd a ha hc w1 _=>by
 simp [execOp,h a ha hc,h' a ha hc,eqGuard_at_int,binOp,Op.intCmp];rfl
theorem Qkc{t u:Ba}{x y:Ea}{k:IntKind}{i j:Int}(h:Ev n σ c x (.int k i))(h':Ev n σ c y (.int k j)):Rd P n σ c wb (.binOp .lss t x y u) ty (.bool (decide (i<j))):=.mk fun d pos after gd a ha hc w1 _=>by
 simp [execOp,h a ha hc,h' a ha hc,eqGuard_at_int,binOp,Op.intCmp]
theorem Qle{t u:Ba}{x y:Ea}{k:IntKind}{i j:Int}(h:Ev n σ c x (.int k i))(h':Ev n σ c y (.int k j)):Rd P n σ c wb (.binOp .leq t x y u) ty (.bool (decide (i≤j))):=.mk fun d pos after gd a ha hc w1 _=>by
 simp [execOp,h a ha hc,h' a ha hc,eqGuard_at_int,binOp,Op.intCmp]
theorem Qlc{t u:Ba}{x y:Ea}{k:IntKind}{i j:Int}(h:Ev n σ c x (.int k i))(h':Ev n σ c y (.int k j)):Rd P n σ c wb (.binOp .gtr t x y u) ty (.bool (decide (j<i))):=.mk fun d pos after gd a ha hc w1 _=>by
 simp [execOp,h a ha hc,h' a ha hc,eqGuard_at_int,binOp,Op.intCmp]
theorem Qmc{t u:Ba}{x y:Ea}{k:IntKind}{i j:Int}(h:Ev n σ c x (.int k i))(h':Ev n σ c y (.int k j)):Rd P n σ c wb (.binOp .geq t x y u) ty (.bool (decide (j≤i))):=.mk fun d pos after gd a ha hc w1 _=>by
 simp [execOp,h a ha hc,h' a ha hc,eqGuard_at_int,binOp,Op.intCmp]
theorem Zlg{t u:Ba}{x y:Ea}{i j:Bool}(ht:P.underlying t=some .bool)(h:Ev n σ c x (.bool i))(h':Ev n σ c y (.bool j)):Rd P n σ c wb (.binOp .eql t x y u) ty (.bool (i == j)):=.mk fun d pos after gd a ha hc w1 _=>by
 simp [execOp,h a ha hc,h' a ha hc,eqGuard_at_bool,binOp,Op.equal,Op.maxDepth,run_equalIn_bool' w1 9999 t i j ht]
theorem Zmg{t u:Ba}{x y:Ea}{i j:Bool}(ht:P.underlying t=some .bool)(h:Ev n σ c x (.bool i))(h':Ev n σ c y (.bool j)):Rd P n σ c wb (.binOp .neq t x y u) ty (.bool (i != j)):=.mk fun d pos after gd a ha hc w1 _=>by
 simp [execOp,h a ha hc,h' a ha hc,eqGuard_at_bool,binOp,Op.equal,Op.maxDepth,run_equalIn_bool' w1 9999 t i j ht];cases i <;> cases j <;> rfl
theorem Yvb{t:Ba}{x:Ea}{i:Bool}(h:Ev n σ c x (.bool i)):Rd P n σ c wb (.unOp .not t x) ty (.bool (!i)):=.mk fun d pos after gd a ha hc w1 _=>by
 simp [execOp,h a ha hc,Op.unary]
/-! strings -/
@[reducible] def Str(l:List UInt8):Ga:=.string ⟨l.toArray⟩
theorem Ulb{t u:Ba}{x y:Ea}{i j:List UInt8}(h:Ev n σ c x (Str i))(h':Ev n σ c y (Str j)):Rd P n σ c wb (.binOp .eql t x y u) ty (.bool (decide (i=j))):=.mk fun d pos after gd a ha hc w1 _=>by
 simp [execOp,h a ha hc,h' a ha hc,eqGuard_at_string,binOp,Op.stringOp];rw [Bta];simp
theorem Wgc{t u:Ba}{x y:Ea}{i j:List UInt8}(h:Ev n σ c x (Str i))(h':Ev n σ c y (Str j)):Rd P n σ c wb (.binOp .neq t x y u) ty (.bool (!decide (i=j))):=.mk fun d pos after gd a ha hc w1 _=>by
 simp [execOp,h a ha hc,h' a ha hc,eqGuard_at_string,binOp,Op.stringOp];rw [Bta];simp
theorem Uu{t:Ba}(h:Vka P t=true):P.underlying t=some .string:=by
 unfold Vka at h;split at h;assumption;cases h
theorem Qjb{t:Ba}{x:Ea}{i:List UInt8}(ht:Vka P t=true)(h:Ev n σ c x (Str i)):Rd P n σ c wb (.call { callee:=.builtin .len,args:=#[x],argTypes:=#[t] }) ty (.int .i64 i.length):=.mk fun d pos after gd a ha hc w1 _=>by
 have hr:=run_len_string (P:=P) w1 t ty ⟨i.toArray⟩ (Uu ht);simp [execOp,resolve,invoke,builtin,h a ha hc,hr,ByteArray.size,goInt]
theorem Qsa{t:Ba}{x y:Ea}{l:List UInt8}{k:IntKind}{i:Int}(ht:Vka P t=true)(h:Ev n σ c x (Str l))(h':Ev n σ c y (.int k i))(hi:c→0≤i∧i<l.length) :
 Rd P n σ c wb (.index t x y) ty (.int .u8 (l.getD i.toNat 0).toNat):=.mk fun d pos after gd a ha hc w1 _=>by
 obtain ⟨h0,h1⟩:=hi hc;have hlt:i.toNat<l.length:=by omega
 have hg:(⟨l.toArray⟩:ByteArray)[i.toNat]? = some l[i.toNat]:=by
  rw [ByteArray.getElem?_lt' _ _ (by simpa [ByteArray.size] using hlt)];rfl
 simp [execOp,h a ha hc,h' a ha hc,Instr.index,asIntOf,run_underlying (Uu ht),h0,hg,Bqa,hlt]
theorem Zdc{t:Ba}{x y z:Ea}{l:List UInt8}{k k':IntKind}{i j:Int}(ht:Vka P t=true)(h:Ev n σ c x (Str l))(h':Ev n σ c y (.int k i))(h'':Ev n σ c z (.int k' j))(hi:c→0≤i∧i≤j∧j≤l.length) :
 Rd P n σ c wb (.slice t x (some y) (some z) none) ty (Str ((l.drop i.toNat).take (j.toNat-i.toNat))):=.mk fun d pos after gd a ha hc w1 _=>by
 obtain ⟨h0,h1,h2⟩:=hi hc;have e1:(0≤j∧j≤((⟨l.toArray⟩:ByteArray).size:Int)):=by simp [ByteArray.size];omega
 have e2:(0≤i∧i≤(j.toNat:Int)):=by omega
 simp only [execOp,h a ha hc,h' a ha hc,h'' a ha hc,Instr.sliceAt,Ara,Aya,Sem.run_bind,run_underlying (Uu ht),Ka];simp [Instr.slice,run_underlying (Uu ht),Instr.sliceBounds,Instr.sliceBound,asIntOf,e1,e2,ByteArray.extract_mk];intro hh;omega
theorem Ywb{t:Ba}{x y:Ea}{l:List UInt8}{k:IntKind}{i:Int}(ht:Vka P t=true)(h:Ev n σ c x (Str l))(h':Ev n σ c y (.int k i))(hi:c→0≤i∧i≤l.length) :
 Rd P n σ c wb (.slice t x (some y) none none) ty (Str (l.drop i.toNat)):=.mk fun d pos after gd a ha hc w1 _=>by
 obtain ⟨h0,h2⟩:=hi hc;have e2:(0≤i∧i≤((⟨l.toArray⟩:ByteArray).size:Int)):=by simp [ByteArray.size];omega
 have e3:(l.drop i.toNat).take ((⟨l.toArray⟩:ByteArray).size-i.toNat)=l.drop i.toNat:=by
  rw [Bua];simp [ByteArray.size]
 simp only [execOp,h a ha hc,h' a ha hc,Instr.sliceAt,Ara,Aya,Sem.run_bind,run_underlying (Uu ht),Ka];simp [Instr.slice,run_underlying (Uu ht),Instr.sliceBounds,Instr.sliceBound,asIntOf,e2,ByteArray.extract_mk,e3]
theorem Zec{t:Ba}{x z:Ea}{l:List UInt8}{k':IntKind}{j:Int}(ht:Vka P t=true)(h:Ev n σ c x (Str l))(h'':Ev n σ c z (.int k' j))(hi:c→0≤j∧j≤l.length) :
 Rd P n σ c wb (.slice t x none (some z) none) ty (Str (l.take j.toNat)):=.mk fun d pos after gd a ha hc w1 _=>by
 obtain ⟨h1,h2⟩:=hi hc;have e1:(0≤j∧j≤((⟨l.toArray⟩:ByteArray).size:Int)):=by simp [ByteArray.size];omega
 simp only [execOp,h a ha hc,h'' a ha hc,Instr.sliceAt,Ara,Aya,Sem.run_bind,run_underlying (Uu ht),Ka];simp [Instr.slice,run_underlying (Uu ht),Instr.sliceBounds,Instr.sliceBound,asIntOf,e1,ByteArray.extract_mk]
/-! slices -/
theorem Ue{t e z by_:Nat}(h:tyElem P t=some (e,z,by_)):P.underlying t=some (.slice e)∧∃ i,P.info? e=some i∧i.size=z∧i.bytes=by_:=by
 unfold tyElem at h;split at h;rename_i e' he
 cases hi:P.info? e' with
 | none=>simp [hi] at h
 | some i =>
  simp only [hi,Ara,Option.some.injEq,Prod.mk.injEq] at h;obtain ⟨rfl,h1,h2⟩:=h;exact ⟨he,i,hi,h1,h2⟩
 cases h
theorem Ysa{t e z by_:Nat}{x:Ea}{b:Option Addr}{m q:Nat}(ht:tyElem P t=some (e,z,by_))(h:Ev n σ c x (.slice b m q)):Rd P n σ c wb (.call { callee:=.builtin .len,args:=#[x],argTypes:=#[t] }) ty (.int .i64 m):=.mk fun d pos after gd a ha hc w1 _=>by
 obtain ⟨hu,i,hi,hz,_⟩:=Ue ht;have he:P.underlying t=some (.slice (P.elem t)):=by rw [hu];simp [Program.elem,hu]
 have hr:=run_len_slice (P:=P) w1 t ty b m q he;simp [execOp,resolve,invoke,builtin,h a ha hc,hr,goInt]
theorem Xta{t e z by_:Nat}{x y:Ea}{b o m q:Nat}{k:IntKind}{i:Int}(ht:tyElem P t=some (e,z,by_))(h:Ev n σ c x (.slice (some ⟨b,o,none⟩) m q))(h':Ev n σ c y (.int k i))(hi:c→0≤i∧i<m) :
 Rd P n σ c wb (.indexAddr t x y) ty (.pointer (some ⟨b,o+i.toNat*z,none⟩)):=.mk fun d pos after gd a ha hc w1 _=>by
 obtain ⟨hu,i',hi',hz,_⟩:=Ue ht;obtain ⟨h0,h1⟩:=hi hc;simp [execOp,h a ha hc,h' a ha hc,Instr.indexAt,asIntOf,run_underlying hu,h0,h1,sizeOf,typeInfo,hi',hz,Addr.add_lit]
end
def Ret(P:Fa)(f:FuncId)(args:Array Ga)(w:Aa)(R:Ga→Aa→Prop):Prop:=Calls P f args w fun e w'=>∃ v,e = .returned v∧R v w'
theorem Ret.mono{P:Fa}{f:FuncId}{args:Array Ga}{w:Aa}{R R':Ga→Aa→Prop}(h:Ret P f args w R)(hr:∀ v w',R v w'→R' v w'):Ret P f args w R' :=
 Calls.mono h fun _ _ ⟨v,e,k⟩=>⟨v,e,hr v _ k⟩
theorem Ret.calls{P:Fa}{f:FuncId}{args:Array Ga}{w:Aa}{R:Ga→Aa→Prop}(h:Ret P f args w R){R':Ending→Aa→Prop}(hr:∀ v w',R v w'→R' (.returned v) w'):Calls P f args w R' :=
 Calls.mono h fun e w' ⟨v,he,k⟩=>by subst he;exact hr v w' k
def Blk(w:Aa)(b:Nat)(e:Ba)(l:List Ga):Prop:=w.heap[b]? = some (.cells l.toArray e (0,0))
theorem Blk.lt{w:Aa}{b:Nat}{e:Ba}{l:List Ga}(h:Blk w b e l):b<w.heap.size:=by
 rcases Boa b w.heap.size with hlt|hge;exact hlt;unfold Blk at h;rw [Array.getElem?_eq_none hge] at h;cases h
theorem Blk.row{w:Aa}{b:Nat}{e:Ba}{l:List Ga}(h:Blk w b e l):RowAt w b 0 l:=fun j v hj=>by
 unfold Blk at h;simp [World.cell?,h,hj]
theorem Blk.at_{w:Aa}{b:Nat}{e:Ba}{l:List Ga}(h:Blk w b e l){i:Nat}{v:Ga}(hi:l[i]? = some v):w.cell? ⟨b,i,none⟩=some v:=by
 have:=h.row i v hi;rwa [Bva] at this
theorem Blk.grow{w w1:Aa}{b:Nat}{e:Ba}{l:List Ga}(h:Blk w b e l)(hg:G w w1):Blk w1 b e l:=(hg.block h.lt).trans h
theorem Blk.keep{w w1:Aa}{b:Nat}{e:Ba}{l:List Ga}{row:Option Nat}(h:Blk w b e l)(hg:w.grownBy w1 row)(hne:some b≠row):Blk w1 b e l:=(hg.block b h.lt hne).trans h
structure New (w w1:Aa) (b:Nat) (e:Ba) (l:List Ga):Prop where
  at_:b=w.heap.size
  blk:Blk w1 b e l
  g:G w w1
  size:w1.heap.size=w.heap.size+1
theorem New.ge{a w w1:Aa}{b:Nat}{e:Ba}{l:List Ga}(h:New w w1 b e l)(g:G a w):a.heap.size≤b:=by have:=g.size;have:=h.at_;omega
theorem New.ne{w w1:Aa}{b:Nat}{e:Ba}{l:List Ga}(h:New w w1 b e l){b':Nat}{e':Ba}{l':List Ga}(hB:Blk w b' e' l'):b≠b':=by have:=hB.lt;have:=h.at_;omega
theorem Zaa(w:Aa)(e:Ba)(l:List Ga):New w (w.alloc (.cells l.toArray e)) w.heap.size e l :=
 ⟨rfl,by unfold Blk;exact heap_alloc_new w _,(Below.refl _ _).alloc (Ala _) _,by simp⟩
theorem G.only{w w1:Aa}(h:G w w1)(row:Option Nat):w.grownBy w1 row:=⟨h.os,h.tape,h.output,h.size,fun k hk _=>h.block hk⟩
section
variable (P:Fa) (Z:List Da→Act→Aa→Prop) (ops:List Oper) (cl:List Nat) (lv:List Bool) (W0:Aa) (n:Nat) (K:Act→Aa→Prop)
structure SR (k:Nat) (l:List Oper) (σ:List Ent) (w:Aa):Prop where mk ::
  h:(∀ j o,l[j]? = some o→ops.toArray[k+j]? = some o)→∀ a,Kn n σ a→RS P Z ops.toArray (clOf cl) (lvOf lv) W0 K (List.range' k l.length) a w
end
section
variable {P:Fa} {Z:List Da→Act→Aa→Prop} {ops:List Oper} {cl:List Nat} {lv:List Bool} {W0:Aa} {n:Nat} {K:Act→Aa→Prop} {k:Nat} {rest:List Oper} {σ:List Ent} {w:Aa} {d:Nat} {op:Op} {ty:Ba} {pos:String} {after:Array Edge} {v:Ga}
instance {l:List Oper}:CoeFun (SR P Z ops cl lv W0 n K k l σ w) fun _=>(∀ j o,l[j]? = some o→ops.toArray[k+j]? = some o)→∀ a,Kn n σ a→RS P Z ops.toArray (clOf cl) (lvOf lv) W0 K (List.range' k l.length) a w:=⟨SR.h⟩
theorem Ze(h:∀ a,Kn n σ a→K a w):SR P Z ops cl lv W0 n K k [] σ w:=.mk fun _ a ha=>h a ha
theorem Wx{l:List Oper}(τ:List Ent)(hs:Sub τ σ)(h:SR P Z ops cl lv W0 n K k l τ w):SR P Z ops cl lv W0 n K k l σ w:=.mk fun hl a ha=>h hl a (ha.sub hs)
theorem Jd{l:List Oper}{o:Oper}(hl:∀ j o',(o::l)[j]? = some o'→ops.toArray[k+j]? = some o'):ops.toArray[k]? = some o∧∀ j o',l[j]? = some o'→ops.toArray[k+1+j]? = some o' :=
 ⟨hl 0 o rfl,fun j o' h=>by have:=hl (j+1) o' h;rwa [show k+(j+1)=k+1+j by omega] at this⟩
theorem Jma{d:Option Nat}{y:Nat→Option Bool}:Ha ⟨d,op,ty,pos,after,none⟩ y=true:=rfl
theorem Uz(hb:(Aaa (clOf cl k) 0&&lvOf lv k&&Aba d n)=true)(hr:Rd P n σ True w op ty v)(h:SR P Z ops cl lv W0 n K (k+1) rest ((d,True,v) :: σ) w) :
 SR P Z ops cl lv W0 n K k (⟨some d,op,ty,pos,after,none⟩::rest) σ w:=.mk fun hl a ha=>by
 obtain ⟨h0,h1⟩:=Jd hl;simp only [Aca] at hb;obtain ⟨⟨hc,hv⟩,hd⟩:=hb;rw [Afa,Aka];refine ⟨_,h0,?_⟩;have hc:=Ada hc;rw [if_pos (.inl hc)];refine ⟨v,fun _ w1 hg=>?_,(fun hn=>by cases hn),h h1 _ (ha.put hd (fun _=>rfl) (fun hn=>absurd trivial hn))⟩;have hg:=hg.resolve_left O;rw [if_pos hv] at hg;exact hr _ _ _ _ a ha trivial w1 hg
theorem Zfc(hb:(Aaa (clOf cl k) 0 && !lvOf lv k&&Aba d n)=true)(hr:Rd P n σ True W0 op ty v)(h:SR P Z ops cl lv W0 n K (k+1) rest ((d,True,v) :: σ) w) :
 SR P Z ops cl lv W0 n K k (⟨some d,op,ty,pos,after,none⟩::rest) σ w:=.mk fun hl a ha=>by
 obtain ⟨h0,h1⟩:=Jd hl;simp only [Aca,Bool.not_eq_true'] at hb;obtain ⟨⟨hc,hv⟩,hd⟩:=hb;rw [Afa,Aka];refine ⟨_,h0,?_⟩;have hc:=Ada hc;rw [if_pos (.inl hc)];refine ⟨v,fun _ w1 hg=>?_,(fun hn=>by cases hn),h h1 _ (ha.put hd (fun _=>rfl) (fun hn=>absurd trivial hn))⟩;have hg:=hg.resolve_left O;rw [if_neg (by rw [hv];simp)] at hg;exact hr _ _ _ _ a ha trivial w1 hg
theorem Qta{g t:Nat}{want b:Bool}{c0:Prop}{a:Act}(hgd:((ops.toArray[g]?).bind (·.dst))=some t)(hlk:look σ t=some (c0,.bool b))(ha:Kn n σ a){d:Option Nat} :
 Ha ⟨d,op,ty,pos,after,some (g,want)⟩ (yielded ops.toArray a.tmps)=true↔c0∧b=want:=by
 obtain ⟨h1,h2⟩:=ha.2.2 t c0 (.bool b) hlk;unfold Ha yielded;simp only [hgd,Option.bind_some];by_cases hc:c0;rw [h1 hc];simp [hc];rw [h2 hc];simp [hc,undef]
open Classical in
theorem Yg{g t:Nat}{want b:Bool}{c0:Prop}(hb:(Aaa (clOf cl k) 0&&lvOf lv k&&Aba d n)=true)(hgd:((ops.toArray[g]?).bind (·.dst))=some t)(hlk:look σ t=some (c0,.bool b))
 (hr:Rd P n σ (c0∧b=want) w op ty v) (h:SR P Z ops cl lv W0 n K (k+1) rest ((d,c0∧b=want,v) :: σ) w) :
 SR P Z ops cl lv W0 n K k (⟨some d,op,ty,pos,after,some (g,want)⟩::rest) σ w:=.mk fun hl a ha=>by
 obtain ⟨h0,h1⟩:=Jd hl;simp only [Aca] at hb;obtain ⟨⟨hc,hv⟩,hd⟩:=hb;rw [Afa,Aka];refine ⟨_,h0,?_⟩;have hc:=Ada hc;rw [if_pos (.inl hc)];have hw:=Qta (op:=op) (ty:=ty) (pos:=pos) (after:=after) (want:=want) (d:=some d) hgd hlk ha;refine ⟨if c0∧b=want then v else undef,fun hwt w1 hg=>?_,fun hn=>?_,h h1 _ (ha.put hd (fun hh=>if_pos hh) (fun hh=>if_neg hh))⟩;have hg:=hg.resolve_left O;rw [if_pos hv] at hg;rw [if_pos (hw.1 hwt)];exact hr _ _ _ _ a ha (hw.1 hwt) w1 hg;rw [if_neg (fun hh=>by rw [hw.2 hh] at hn;cases hn)]
open Classical in
theorem Zz(hb:(Aaa (clOf cl k) 3&&Aba d n)=true)(hr:∀ wb,Rd P n σ True wb op ty v)(h:SR P Z ops cl lv W0 n K (k+1) rest ((d,True,v) :: σ) w) :
 SR P Z ops cl lv W0 n K k (⟨some d,op,ty,pos,after,none⟩::rest) σ w:=.mk fun hl a ha=>by
 obtain ⟨h0,h1⟩:=Jd hl;simp only [Aca] at hb;rw [Afa,Aka];refine ⟨_,h0,?_⟩;rw [if_pos (.inr (Ada hb.1))];exact ⟨v,fun _ w1 _=>hr w1 _ _ _ _ a ha trivial w1 (G.refl _),(fun hn=>by cases hn),h h1 _ (ha.put hb.2 (fun _=>rfl) (fun hn=>absurd trivial hn))⟩
open Classical in
theorem Zk{g t:Nat}{want b:Bool}{c0:Prop}(hb:(Aaa (clOf cl k) 3&&Aba d n)=true)(hgd:((ops.toArray[g]?).bind (·.dst))=some t)(hlk:look σ t=some (c0,.bool b))
 (hr:∀ wb,Rd P n σ (c0∧b=want) wb op ty v) (h:SR P Z ops cl lv W0 n K (k+1) rest ((d,c0∧b=want,v) :: σ) w) :
 SR P Z ops cl lv W0 n K k (⟨some d,op,ty,pos,after,some (g,want)⟩::rest) σ w:=.mk fun hl a ha=>by
 obtain ⟨h0,h1⟩:=Jd hl;simp only [Aca] at hb;rw [Afa,Aka];refine ⟨_,h0,?_⟩;rw [if_pos (.inr (Ada hb.1))];have hw:=Qta (op:=op) (ty:=ty) (pos:=pos) (after:=after) (want:=want) (d:=some d) hgd hlk ha;refine ⟨if c0∧b=want then v else undef,fun hwt w1 _=>?_,fun hn=>?_,h h1 _ (ha.put hb.2 (fun hh=>if_pos hh) (fun hh=>if_neg hh))⟩;rw [if_pos (hw.1 hwt)];exact hr w1 _ _ _ _ a ha (hw.1 hwt) w1 (G.refl _);rw [if_neg (fun hh=>by rw [hw.2 hh] at hn;cases hn)]
def RunV(P:Fa)(n:Nat)(σ:List Ent)(c:Prop)(w:Aa)(op:Op)(ty:Ba)(v:Ga)(w':Aa):Prop :=
 ∀ (d:Option Tmp) (pos:String) (after:Array Edge) (g:Option (Nat×Bool)) (a:Act),Kn n σ a→c→(execOp a.eval ⟨d,op,ty,pos,after,g⟩).run P w = .ok (.value v) w'
def RunS(P:Fa)(n:Nat)(σ:List Ent)(c:Prop)(w:Aa)(op:Op)(ty:Ba)(w':Aa):Prop :=
 ∀ (d:Option Tmp) (pos:String) (after:Array Edge) (g:Option (Nat×Bool)) (a:Act),Kn n σ a→c→(execOp a.eval ⟨d,op,ty,pos,after,g⟩).run P w = .ok .skip w'
def RunC(P:Fa)(n:Nat)(σ:List Ent)(c:Prop)(w:Aa)(op:Op)(ty:Ba)(f:FuncId)(args:Array Ga):Prop :=
 ∀ (d:Option Tmp) (pos:String) (after:Array Edge) (g:Option (Nat×Bool)) (a:Act),Kn n σ a→c→(execOp a.eval ⟨d,op,ty,pos,after,g⟩).run P w = .ok (.enter f args) w
theorem Umb{w':Aa}(hb:(!Aaa (clOf cl k) 0 && !Aaa (clOf cl k) 3&&Aba d n)=true)(hr:RunV P n σ True w op ty v w')(hg:clOf cl k=1→G w w')(h:SR P Z ops cl lv W0 n K (k+1) rest ((d,True,v) :: σ) w') :
 SR P Z ops cl lv W0 n K k (⟨some d,op,ty,pos,after,none⟩::rest) σ w:=.mk fun hl a ha=>by
 obtain ⟨h0,h1⟩:=Jd hl;simp only [Aca,Bool.not_eq_true'] at hb;rw [Afa,Aka];refine ⟨_,h0,?_⟩;rw [if_neg (fun he=>by rcases he with he|he <;> rw [he] at hb <;> simp at hb),if_pos Jma]
 exact .inl ⟨v,w',hr _ _ _ _ a ha trivial,fun hh=>hg (by simpa using hh),h h1 _ (ha.put hb.2 (fun _=>rfl) (fun hn=>absurd trivial hn))⟩
theorem Yce{w':Aa}(hb:Aaa (clOf cl k) 2=true)(hr:RunS P n σ True w op ty w')(h:SR P Z ops cl lv W0 n K (k+1) rest σ w') :
 SR P Z ops cl lv W0 n K k (⟨none,op,ty,pos,after,none⟩::rest) σ w:=.mk fun hl a ha=>by
 obtain ⟨h0,h1⟩:=Jd hl;have hc:=Ada hb;rw [Afa,Aka];refine ⟨_,h0,?_⟩;rw [if_neg O,if_pos Jma];exact .inr (.inl ⟨w',hr _ _ _ _ a ha trivial,fun hh=>by rw [hc] at hh;simp at hh,h h1 _ ha⟩)
theorem Xm{f:FuncId}{args:Array Ga}{R:Ga→Aa→Prop}(hb:(!Aaa (clOf cl k) 0 && !Aaa (clOf cl k) 3&&Aba d n)=true)(hr:RunC P n σ True w op ty f args)(hC:Ret P f args w R)
 (h:∀ v w',R v w'→(clOf cl k=1→G w w')∧SR P Z ops cl lv W0 n K (k+1) rest ((d,True,v) :: σ) w') :
 SR P Z ops cl lv W0 n K k (⟨some d,op,ty,pos,after,none⟩::rest) σ w:=.mk fun hl a ha=>by
 obtain ⟨h0,h1⟩:=Jd hl;simp only [Aca,Bool.not_eq_true'] at hb;rw [Afa,Aka];refine ⟨_,h0,?_⟩;rw [if_neg (fun he=>by rcases he with he|he <;> rw [he] at hb <;> simp at hb),if_pos Jma]
 refine .inr (.inr (.inl ⟨f,args,hr _ _ _ _ a ha trivial,Calls.mono hC fun e w' ⟨v,he,hv⟩=>.inl ?_⟩));obtain ⟨q1,q2⟩:=h v w' hv;exact ⟨v,he,fun hh=>q1 (by simpa using hh),q2 h1 _ (ha.put hb.2 (fun _=>rfl) (fun hn=>absurd trivial hn))⟩
theorem Wy{f:FuncId}{args:Array Ga}(hb:(!Aaa (clOf cl k) 0 && !Aaa (clOf cl k) 3&&Aba d n)=true)(hr:RunC P n σ True w op ty f args)(hC:Ret P f args w fun u w'=>u=v∧G w w')
  (h:∀ w',G w w'→SR P Z ops cl lv W0 n K (k+1) rest ((d,True,v) :: σ) w') :
  SR P Z ops cl lv W0 n K k (⟨some d,op,ty,pos,after,none⟩::rest) σ w :=
 Xm hb hr hC fun u w' ⟨hu,hg⟩=>⟨fun _=>hg,by subst hu;exact h w' hg⟩
theorem Xu{g t:Nat}{want b:Bool}{c0:Prop}{f:FuncId}{args:Array Ga}(hb:(!Aaa (clOf cl k) 0 && !Aaa (clOf cl k) 3&&Aba d n)=true)(hgd:((ops.toArray[g]?).bind (·.dst))=some t)(hlk:look σ t=some (c0,.bool b))
 (hr:c0∧b=want→RunC P n σ (c0∧b=want) w op ty f args) (hC:c0∧b=want→Ret P f args w fun u w'=>u=v∧G w w')
 (h:∀ w',G w w'→SR P Z ops cl lv W0 n K (k+1) rest ((d,c0∧b=want,v) :: σ) w') :
 SR P Z ops cl lv W0 n K k (⟨some d,op,ty,pos,after,some (g,want)⟩::rest) σ w:=.mk fun hl a ha=>by
 obtain ⟨h0,h1⟩:=Jd hl;simp only [Aca,Bool.not_eq_true'] at hb;rw [Afa,Aka];have hw:=Qta (op:=op) (ty:=ty) (pos:=pos) (after:=after) (want:=want) (d:=some d) hgd hlk ha;refine ⟨_,h0,?_⟩;rw [if_neg (fun he=>by rcases he with he|he <;> rw [he] at hb <;> simp at hb)]
 by_cases hh:c0∧b=want;rw [if_pos (hw.2 hh)];refine .inr (.inr (.inl ⟨f,args,hr hh _ _ _ _ a ha hh,Calls.mono (hC hh) fun e w' ⟨u,he,hu,hg⟩=>.inl ?_⟩));subst hu;exact ⟨u,he,fun _=>hg,h w' hg h1 _ (ha.put hb.2 (fun _=>rfl) (fun hn=>absurd hh hn))⟩;rw [if_neg (fun hq=>hh (hw.1 hq))];exact h w (G.refl w) h1 _ (ha.put hb.2 (fun hq=>absurd hq hh) (fun _=>rfl))
/-! the operations that make memory -/
theorem Zda{elem:Ba}{x:Ea}{u:Ga}{l:List Ga}(hb:(!Aaa (clOf cl k) 0 && !Aaa (clOf cl k) 3&&Aba d n)=true)(hx:Ev n σ True x u)(hl:u.cells=l.toArray)
  (h:∀ b w1,New w w1 b elem l→SR P Z ops cl lv W0 n K (k+1) rest ((d,True,.pointer (some ⟨b,0,none⟩)) :: σ) w1) :
  SR P Z ops cl lv W0 n K k (⟨some d,.box elem x,ty,pos,after,none⟩::rest) σ w :=
 Umb hb (w':=w.alloc (.cells l.toArray elem)) (fun d pos after g a ha _=>by simp [execOp,hx a ha trivial,Instr.box,newVar,newRow,hl]) (fun _=>(Zaa w elem l).g) (h _ _ (Zaa w elem l))
def zeroOf(P:Fa)(t:Ba):Option Ga:=match P.info? t with|some i=>i.zero|none=>none
theorem Ula{t:Ba}{z:Ga}(h:zeroOf P t=some z):∃ i,P.info? t=some i∧i.zero=some z:=by
 unfold zeroOf at h;split at h;exact ⟨_,by assumption,h⟩;cases h
theorem Xc{elem:Ba}{z:Ga}{l:List Ga}(hb:(!Aaa (clOf cl k) 0 && !Aaa (clOf cl k) 3&&Aba d n)=true)(hz:zeroOf P elem=some z)(hl:z.cells=l.toArray)
 (h:∀ b w1,New w w1 b elem l→SR P Z ops cl lv W0 n K (k+1) rest ((d,True,.pointer (some ⟨b,0,none⟩)) :: σ) w1) :
 SR P Z ops cl lv W0 n K k (⟨some d,.alloc elem,ty,pos,after,none⟩::rest) σ w:=by
 obtain ⟨i,hi,hz'⟩:=Ula hz;exact Umb hb (w':=w.alloc (.cells l.toArray elem)) (fun d pos after g a ha _=>by simp [execOp,Instr.alloc,zeroValue,typeInfo,hi,hz',newVar,newRow,hl]) (fun _=>(Zaa w elem l).g) (h _ _ (Zaa w elem l))
def Xda(n:Nat)(σ:List Ent)(c:Prop)(ps:Array (Nat×Ea))(vs:List (Nat×Ga)):Prop:=∀ a,Kn n σ a→c→(ps.map fun p=>(p.1,a.eval p.2)).toList=vs
theorem Vj{n:Nat}{σ:List Ent}{c:Prop}:Xda n σ c #[] []:=fun _ _ _=>by simp
theorem Wi{n:Nat}{σ:List Ent}{c:Prop}{i:Nat}{x:Ea}{u:Ga}{ps:List (Nat×Ea)}{vs:List (Nat×Ga)}(h:Ev n σ c x u)(k:Xda n σ c ps.toArray vs):Xda n σ c ((i,x)::ps).toArray ((i,u)::vs):=fun a ha hc=>by
 have:=k a ha hc;simp only [Bga,List.toList_toArray] at this ⊢;rw [Aza,this,h a ha hc]
def Wh(P:Fa)(t:Ba):Option (List (Nat×Nat)):=match P.underlying t with
 | some (.struct fs)=>fs.toList.mapM fun f=>(P.info? f.type).map fun i=>(f.offset,i.size)
 | _=>none
theorem Whc(w:Aa):∀ (fs:List Field) (ps:List (Nat×Nat)),(fs.mapM fun f=>(P.info? f.type).map fun i=>(f.offset,i.size))=some ps→
  (fs.mapM (fun f=>(do pure (f.offset,← sizeOf f.type):Sem (Nat×Nat)))).run P w = .ok ps w
 | [],ps,h=>by simp at h;subst h;rfl
 | f::fs,ps,h=>by
  rw [Bha] at h
  cases hi:P.info? f.type with
  | none=>rw [hi] at h;simp at h
  | some i =>
   rw [hi] at h
   cases hr:(fs.mapM fun f=>(P.info? f.type).map fun i=>(f.offset,i.size)) with
   | none=>rw [hr] at h;simp at h
   | some qs =>
    rw [hr] at h;simp at h;subst h;have:=Whc w fs qs hr;rw [Bha];simp [sizeOf,typeInfo,hi] at this ⊢;rw [this];simp
def Vsb(pl:Nat→Option (Nat×Nat)):List Ga→List (Nat×Ga)→Option (List Ga)
 | cs,[]=>some cs
 | cs,(i,v)::rest=>match pl i with
  | none=>none
  | some (off,z)=>if Aaa v.cells.toList.length z&&Aja (off+z) cs.length then Vsb pl (cs.take off++v.cells.toList++cs.drop (off+z)) rest else none
theorem Wic:∀ (vs:List Ga) (off i:Nat) (cs:List Ga),off+i+vs.length≤cs.length→
  (vs.zipIdx i).foldl (fun (cs:Array Ga) (p:Ga×Nat)=>cs.setIfInBounds (off+p.2) p.1) cs.toArray=(cs.take (off+i)++vs++cs.drop (off+i+vs.length)).toArray
 | [],off,i,cs,_=>by simp
 | v::vs,off,i,cs,h=>by
  simp only [Afa] at h;rw [List.zipIdx_cons,List.foldl_cons];have e:(cs.toArray.setIfInBounds (off+i) v)=(cs.set (off+i) v).toArray:=by simp
  simp only [e];rw [Wic vs off (i+1) _ (by simp;omega)];have hlt:off+i<cs.length:=by omega
  have e1:(cs.set (off+i) v).take (off+(i+1))=cs.take (off+i)++[v]:=by
   rw [show off+(i+1)=(off+i)+1 by omega,List.take_add_one,Cda (Ala _)];simp [hlt]
  have e2:(cs.set (off+i) v).drop (off+(i+1)+vs.length)=cs.drop (off+i+(v::vs).length):=by
   rw [Cea O];congr 1;simp;omega
  rw [e1,e2];simp [Baa]
theorem Wpb(pl:Nat→Option (Nat×Nat)):∀ (vs:List (Nat×Ga)) (cs l:List Ga),Vsb pl cs vs=some l→Instr.fill pl cs.toArray vs=some l.toArray
 | [],cs,l,h=>by injection h with h;subst h;rfl
 | (i,v)::rest,cs,l,h=>by
  unfold Vsb at h;unfold Instr.fill;split at h;cases h;rename_i off z hp;split at h;rename_i hc;simp only [Aca] at hc;have h1:=Ada hc.1;have h2:=Aha hc.2;simp only [hp];have h3:v.cells.size=z:=by simpa using h1
  rw [if_neg (by simp [h3];omega)]
  have e:v.cells.zipIdx.foldl (fun cs x=>cs.setIfInBounds (off+x.2) x.1) cs.toArray=(cs.take off++v.cells.toList++cs.drop (off+z)).toArray:=by
   have:=Wic v.cells.toList off 0 cs (by rw [h1];omega);rw [h1] at this;simp only [Nat.add_zero] at this;rw [← this,← Array.foldl_toList,Array.toList_zipIdx]
  have e':=Wpb pl rest _ l h;rw [← e] at e';exact e';cases h
theorem Uv{c:Prop}{wb:Aa}{t:Ba}{ps:Array (Nat×Ea)}{vs:List (Nat×Ga)}{pl:List (Nat×Nat)}{z:Ga}{zl:List Ga}(l:List Ga)(hz:zeroOf P t=some z)(hzl:z.cells=zl.toArray)(hp:Wh P t=some pl)(hx:Xda n σ c ps vs)
 (hf:Vsb (fun (i:Nat)=>pl[i]?) zl vs=some l):Rd P n σ c wb (.build t ps) ty (.agg l.toArray):=.mk fun d pos after g a ha hc w1 _=>by
 have hf:=Wpb _ _ _ _ hf;rw [← hzl] at hf;obtain ⟨i,hi,hz'⟩:=Ula hz;unfold Wh at hp;split at hp;rename_i fs hfs;have hpl:=Whc (P:=P) w1 fs.toList pl hp
 have hpl':(fs.mapM (fun f=>(do pure (f.offset,← sizeOf f.type):Sem (Nat×Nat)))).run P w1 = .ok pl.toArray w1:=by
  rw [Bia];simp only [Sem.run_map,hpl,Ka]
 have hx':=hx a ha hc;simp only [execOp,Instr.build,Sem.run_bind,zeroValue,typeInfo,run_program,Ka,hi,hz',Sem.run_pure,run_underlying hfs];rw [hpl'];simp only [Ka];have hfun:(fun (x:Nat)=>pl.toArray[x]?)=(fun (i:Nat)=>pl[i]?):=by funext i;simp
 rw [hfun,hx',hf];rfl;cases hp
def Yyc(z:Nat):Nat→List (Nat×Ga)→Option (List Ga)
 | _,[]=>some []
 | k,(i,v)::rest=>if Aaa i k&&Aaa v.cells.toList.length z then (Yyc z (k+1) rest).map (v.cells.toList ++ ·) else none
theorem Unb(z:Nat):∀ (vs:List (Nat×Ga)) (k:Nat) (done cs l:List Ga),Yyc z k vs=some l→done.length=k*z→cs.length=(k+vs.length)*z→cs.take (k*z)=done→
  Vsb (fun i=>some (i*z,z)) cs vs=some (done++l)
 | [],k,done,cs,l,h,h1,h2,h3=>by
  injection h with h;subst h;unfold Vsb;rw [← h3,Bma,Bua (by rw [h2];simp)]
 | (i,v)::rest,k,done,cs,l,h,h1,h2,h3=>by
  unfold Yyc at h;split at h
  ·rename_i hc
   simp only [Aca] at hc;have e1:=Ada hc.1;have e2:=Ada hc.2;subst e1
   cases hr:Yyc z (i+1) rest with
   | none=>rw [hr] at h;cases h
   | some l' =>
    rw [hr] at h;injection h with h;subst h;unfold Vsb;simp only [Afa] at h2;have hm:(i+1)*z=i*z+z:=by rw [Bja,Nat.one_mul]
    have hm2:(i+(rest.length+1))*z=i*z+z+rest.length*z:=by rw [Bja,Bja,Nat.one_mul];omega
    have hle:i*z+z≤cs.length:=by rw [h2,hm2];omega
    dsimp only;rw [if_pos (by rw [Aca];exact ⟨hc.2,Cfa hle⟩)]
    have:=Unb z rest (i+1) (done++v.cells.toList) (cs.take (i*z)++v.cells.toList++cs.drop (i*z+z)) l' hr (by rw [Asa,h1,e2,hm]) (by
     rw [Asa,Asa,e2,Bba,List.length_drop,h2,hm2,Bja,hm];omega) (by
     rw [hm,List.take_append_of_le_length (by rw [Asa,e2,Bba];omega),Bua (by rw [Asa,e2,Bba];omega),h3])
    rw [this,Baa]
  · cases h
theorem Yc{t e z by_ m:Nat}{ps:Array (Nat×Ea)}{vs:List (Nat×Ga)}{zv:Ga}(l:List Ga)(hb:(!Aaa (clOf cl k) 0 && !Aaa (clOf cl k) 3&&Aba d n)=true)(ht:tyElem P t=some (e,z,by_))(hz:zeroOf P e=some zv)
 (hx:Xda n σ True ps vs) (hm:(Aja (m*z) 16777216 && !Aaa (m*z) 0&&Aaa vs.length m)=true) (hf:Yyc z 0 vs=some l)
 (h:∀ b w1,New w w1 b e l→SR P Z ops cl lv W0 n K (k+1) rest ((d,True,.slice (some ⟨b,0,none⟩) m m) :: σ) w1) :
 SR P Z ops cl lv W0 n K k (⟨some d,.buildSlice t m ps,ty,pos,after,none⟩::rest) σ w:=by
 obtain ⟨hu,i,hi,hsz,_⟩:=Ue ht;obtain ⟨i',hi',hz'⟩:=Ula hz;obtain rfl:i=i':=Option.some.inj (hi.symm.trans hi');simp only [Aca,Bool.not_eq_true'] at hm;have hm1:¬ (m*z>2 ^ 24):=by have:=Aha hm.1.1;omega
 have hm2:¬ (m*z=0):=by intro he;rw [he] at hm;simp at hm
 have hvl:=Ada hm.2
 have hfill:Instr.fill (fun i=>some (i*z,z)) ((Array.range (m*z)).map (zv.cells[· % zv.cells.size]!)) vs=some l.toArray:=by
  have h1:=Unb z vs 0 [] ((Array.range (m*z)).map (zv.cells[· % zv.cells.size]!)).toList l hf Os (by simp [hvl]) Os;have:=Wpb _ _ _ _ h1;rwa [Bwa] at this
 refine Umb hb (w':=w.alloc (.cells l.toArray e)) (fun d pos after g a ha _=>?_) (fun _=>(Zaa w e l).g) (h _ _ (Zaa w e l));have hx':=hx a ha trivial;simp only [execOp,Instr.buildSlice,Sem.run_bind,run_underlying hu,Ka,sizeOf,typeInfo,run_program,hi,Sem.run_pure,hsz,if_neg hm1,if_neg hm2,zeroValue,hz'];rw [hx',hfill];simp [newRow]
/-! calls -/
def goFn(P:Fa)(f:FuncId):Bool:=match P.funcs[f]? with|some fn=>!(fn.name == "runtime.NumGoroutine")&&fn.body.isSome|none=>false
def Yta(n:Nat)(σ:List Ent)(c:Prop)(xs:List Ea)(vs:List Ga):Prop:=∀ a,Kn n σ a→c→xs.map a.eval=vs
theorem Yl{n:Nat}{σ:List Ent}{c:Prop}:Yta n σ c [] []:=fun _ _ _=>rfl
theorem Ya{n:Nat}{σ:List Ent}{c:Prop}{x:Ea}{u:Ga}{xs:List Ea}{vs:List Ga}(h:Ev n σ c x u)(k:Yta n σ c xs vs):Yta n σ c (x::xs) (u::vs):=fun a ha hc=>by
 rw [Aza,h a ha hc,k a ha hc]
theorem Yxb{f:FuncId}(hf:goFn P f=true)(args:Array Ga)(w:Aa):(callFunc f args).run P w = .ok (.enter f args) w:=by
 unfold goFn at hf;split at hf;rename_i fn hfn;simp only [Aca,Bool.not_eq_true'] at hf;obtain ⟨h1,h2⟩:=hf;have h3:¬ fn.body=none:=by intro hb;rw [hb] at h2;cases h2
 have h4:¬ fn.name = "runtime.NumGoroutine" := by simpa using h1
 simp [callFunc,hfn,h4,h3];cases hf
theorem Zu{c:Prop}{x:Ea}{f:FuncId}{fs cs:Array Ga}{xs:List Ea}{vs:List Ga}{ats:Array Ba}{args:Array Ga}(hf:goFn P f=true)(h:Ev n σ c x (.func (.func f) fs cs))(hx:Yta n σ c xs vs)
 (ha:fs++vs.toArray++cs=args):RunC P n σ c w (.call { callee:=.value x,args:=xs.toArray,argTypes:=ats }) ty f args:=fun d pos after g a hk hc=>by
 have h1:=hx a hk hc;have h2:xs.toArray.map a.eval=vs.toArray:=by rw [Bga,h1]
 simp only [execOp,resolve,h a hk hc,h2,Deferred.ofValue,Sem.run_bind,Sem.run_pure,Ka,invoke,ha];exact Yxb hf args w
def onesB(l:List Ga):Bool:=l.all (·.oneCell')
theorem Yde{l:List Ga}(h:onesB l=true):∀ u∈l,u.oneCell'=true:=fun u hu=>Aia.1 h u hu
/-! stores -/
theorem Wdd{b o:Nat}{e:Ba}{l:List Ga}{v:Ga}(hB:Blk w b e l)(ho:o<l.length)(hv:v.oneCell'=true) :
 (store ⟨b,o,none⟩ v).run P w = .ok () (w.setCell ⟨b,o,none⟩ v)∧Blk (w.setCell ⟨b,o,none⟩ v) b e (l.set o v)∧w.grownBy (w.setCell ⟨b,o,none⟩ v) (some b):=by
 have hc:w.cell? ⟨b,o,none⟩=some l[o]:=hB.at_ (List.getElem?_eq_getElem ho);have hfz:w.frozen? ⟨b,o,none⟩=false:=by unfold Blk at hB;simp [World.frozen?,hB]
 refine ⟨?_,?_,⟨rfl,rfl,rfl,by simp,fun k hk hne=>Below.heap_setCell _ _ _ _ (fun he=>hne (by rw [he]))⟩⟩;rw [run_store P w _ v _ hv,hc];simp [hfz];unfold Blk at hB ⊢;simp [World.setCell,Array.getElem?_modify,hB]
theorem Jfa{a b c:Aa}{row:Option Nat}(h:a.grownBy b row)(k:b.grownBy c row):a.grownBy c row :=
 ⟨k.os.trans h.os,k.tape.trans h.tape,k.output.trans h.output,Nat.le_trans h.size k.size,fun i hi hn=>(k.block i (Nat.lt_of_lt_of_le hi h.size) hn).trans (h.block i hi hn)⟩
theorem Qkb{b e:Nat}:∀ (vs:List Ga) (o i:Nat) (l:List Ga) (w:Aa),Blk w b e l→o+i+vs.length≤l.length→(∀ u∈vs,u.oneCell'=true)→
  ∃ w',(storeCells ⟨b,o,none⟩ vs i).run P w = .ok () w'∧Blk w' b e (l.take (o+i)++vs++l.drop (o+i+vs.length))∧w.grownBy w' (some b)∧w'.heap.size=w.heap.size
 | [],o,i,l,w,hB,_,_=>⟨w,rfl,by simpa using hB,⟨rfl,rfl,rfl,Ala _,fun _ _ _=>rfl⟩,rfl⟩
 | v::vs,o,i,l,w,hB,hl,h1=>by
  simp only [Afa] at hl;obtain ⟨q1,q2,q3⟩:=Wdd (P:=P) hB (o:=o+i) O (h1 v Aga);obtain ⟨w',r1,r2,r3,r4⟩:=Qkb vs o (i+1) (l.set (o+i) v) _ q2 (by simp;omega) (fun u hu=>h1 u (Ama _ hu));refine ⟨w',?_,?_,Jfa q3 r3,by rw [r4];simp⟩;simp only [storeCells,Sem.run_bind,Addr.add_lit,q1,Ka];exact r1;have hlt:o+i<l.length:=by omega
  have e1:(l.set (o+i) v).take (o+(i+1))=l.take (o+i)++[v]:=by
   rw [show o+(i+1)=(o+i)+1 by omega,List.take_add_one,Cda (Ala _)];simp [hlt]
  have e2:(l.set (o+i) v).drop (o+(i+1)+vs.length)=l.drop (o+i+(v::vs).length):=by
   rw [Cea O];congr 1;simp;omega
  rw [e1,e2] at r2;simpa [Baa] using r2
theorem Xn{t:Ba}{x y:Ea}{b o z:Nat}{e:Ba}{u:Ga}{l vs:List Ga}(hb:Aaa (clOf cl k) 2=true)(hs:tySize P t=some z)(hx:Ev n σ True x (.pointer (some ⟨b,o,none⟩)))(hy:Ev n σ True y u)
 (hu:u.cells=vs.toArray) (hz:vs.length=z) (hB:Blk w b e l) (hfit:Aja (o+vs.length) l.length=true) (h1:onesB vs=true)
 (h:∀ w1,w.grownBy w1 (some b)→w1.heap.size=w.heap.size→Blk w1 b e (l.take o++vs++l.drop (o+vs.length))→SR P Z ops cl lv W0 n K (k+1) rest σ w1) :
 SR P Z ops cl lv W0 n K k (⟨none,.store t x y,ty,pos,after,none⟩::rest) σ w:=by
 obtain ⟨w1,r1,r2,r3,r4⟩:=Qkb (P:=P) vs o 0 l w hB (by have:=Aha hfit;omega) (Yde h1);refine Yce hb (w':=w1) (fun d pos after g a ha _=>?_) (h w1 r3 r4 (by simpa using r2));unfold tySize at hs;obtain ⟨i,hi,hi2⟩:=Option.map_eq_some_iff.1 hs;have hsz:(sizeOf t).run P w = .ok vs.length w:=by simp [sizeOf,typeInfo,hi,hi2,hz]
 simp [execOp,hx a ha trivial,hy a ha trivial,Instr.storeAt,Instr.sureAddr,storeVar,hsz,hu,r1]
theorem Xq{t:Ba}{x y:Ea}{b z:Nat}{e:Ba}{u:Ga}{l vs:List Ga}(hb:Aaa (clOf cl k) 2=true)(hs:tySize P t=some z)(hx:Ev n σ True x (.pointer (some ⟨b,0,none⟩)))(hy:Ev n σ True y u)
 (hu:u.cells=vs.toArray) (hz:vs.length=z) (hB:Blk w b e l) (hfit:Aaa vs.length l.length=true) (h1:onesB vs=true)
 (h:∀ w1,w.grownBy w1 (some b)→w1.heap.size=w.heap.size→Blk w1 b e vs→SR P Z ops cl lv W0 n K (k+1) rest σ w1) :
 SR P Z ops cl lv W0 n K k (⟨none,.store t x y,ty,pos,after,none⟩::rest) σ w:=by
 have hf:=Ada hfit;refine Xn hb hs hx hy hu hz hB (by rw [Bva,hf];exact Nat.ble_self_eq_true _) h1 fun w1 h2 h3 h4=>h w1 h2 h3 ?_;rw [Bva,hf,List.drop_length,List.take_zero,Bxa,Bma] at h4;exact h4
theorem Xr{t:Ba}{x y:Ea}{b o:Nat}{e:Ba}{u v:Ga}{l:List Ga}(hb:Aaa (clOf cl k) 2=true)(hs:tySize P t=some 1)(hx:Ev n σ True x (.pointer (some ⟨b,o,none⟩)))(hy:Ev n σ True y u)
 (hu:u.cells = #[v]) (hB:Blk w b e l) (hfit:Aba o l.length=true) (h1:v.oneCell'=true)
 (h:∀ w1,w.grownBy w1 (some b)→w1.heap.size=w.heap.size→Blk w1 b e (l.set o v)→SR P Z ops cl lv W0 n K (k+1) rest σ w1) :
 SR P Z ops cl lv W0 n K k (⟨none,.store t x y,ty,pos,after,none⟩::rest) σ w:=by
 have hf:o<l.length:=Aha hfit;refine Xn (vs:=[v]) hb hs hx hy hu rfl hB (Nat.ble_eq▸hf) (by simp [onesB,h1]) fun w1 h2 h3 h4=>h w1 h2 h3 ?_
 have e1:l.set o v=l.take o++[v]++l.drop (o+[v].length):=by
  rw [List.set_eq_take_append_cons_drop,if_pos hf];simp
 rw [e1];exact h4
theorem Um{t e z by_ base m q q':Nat}{x y:Ea}{s zv:Ga}{xs news:List Ga}{b' o':Nat}(hb:(Aaa (clOf cl k) 2&&Aba d n)=true)(ht:tyElem P t=some (e,z,by_))(hzv:zeroOf P e=some zv)
 (hzs:zv.cells.size=z) (hz0:0<z) (hx:Ev n σ True x s) (hown:w.ownsRow base e z s m xs) (hy:Ev n σ True y (.slice (some ⟨b',o',none⟩) q q')) (hl:news.length=q*z) (hn:RowAt w b' o' news) (h1:onesB news=true)
 (h63:m+q≤maxLen) (hby:(m+q)*by_≤140737488355328) (hbase:base≤w.heap.size)
 (h:∀ a' c' w',w'.ownsRow base e z (.slice a' (m+q) c') (m+q) (xs++news)→w.grownBy w' s.ownBlock→((Value.slice a' (m+q) c').ownBlock=s.ownBlock∨(Value.slice a' (m+q) c').ownBlock=some w.heap.size)→SR P Z ops cl lv W0 n K (k+1) rest ((d,True,.slice a' (m+q) c') :: σ) w') :
 SR P Z ops cl lv W0 n K k (⟨some d,.call { callee:=.builtin .append,args:=#[x,y],argTypes:=#[t,t] },ty,pos,after,none⟩::rest) σ w:=by
 obtain ⟨hu,i,hi,hsz,hbyi⟩:=Ue ht;obtain ⟨i',hi',hz'⟩:=Ula hzv;obtain rfl:i=i':=Option.some.inj (hi.symm.trans hi');simp only [Aca] at hb;have hc:=Ada hb.1;obtain ⟨s',w',r1,r2,r3,_,r5⟩:=run_append_own_at (P:=P) w base t ty e i zv z by_ hu hi hz' hsz hbyi hzs hz0 s m xs hown ⟨b',o',none⟩ q q' news hl (fun j u hj=>by rw [Addr.add_lit];exact hn j u hj) (Yde h1) h63 hby hbase
 obtain ⟨a',c',hs'⟩:∃ a' c',s' = .slice a' (m+q) c':=by
  rcases r2.2 with ⟨q1,q2⟩|⟨g,cap,cur,q1,_⟩;exact ⟨none,0,by rw [q1,q2]⟩;exact ⟨_,cap,q1⟩
 subst hs';refine Umb (w':=w') (by rw [hc,hb.2];rfl) (fun d pos after g a ha _=>?_) (fun hh=>O) (h a' c' w' r2 r3 r5);simp only [execOp,resolve,invoke,builtin,Sem.run_bind,Sem.run_pure,Ka,Bga,Aza,List.map_nil,hx a ha trivial,hy a ha trivial,r1]
end
/-! ## Code -/
def Qof(N:Act→Aa→Prop)(X:List (Nat×(Act→Aa→Prop)))(T:Act→Aa→Prop)(B:List Da→Aa→Prop):Exit→Act→Aa→Prop
 | .normal,a,w=>N a w
 | .ret,a,w=>T a w
 | .exit id,a,w=>match X.lookup id with|some k=>k a w|none=>False
 | .panic ch,a,w=>a.defers=[]∧B ch w
 | _,_,_=>False
@[reducible] def ZA(B:List Da→Aa→Prop)(ch:List Da)(a:Act)(w:Aa):Prop:=a.defers=[]∧B ch w
structure SZ (P:Fa) (B:List Da→Aa→Prop) (n:Nat) (c:Code) (N:Act→Aa→Prop) (X:List (Nat×(Act→Aa→Prop))) (T:Act→Aa→Prop) (σ:List Ent) (w:Aa):Prop where mk ::
  h:∀ a,Kn n σ a→c.wp P (Qof N X T B) a w
@[reducible] def SC(P:Fa)(n:Nat)(c:Code)(N:Act→Aa→Prop)(X:List (Nat×(Act→Aa→Prop)))(T:Act→Aa→Prop)(σ:List Ent)(w:Aa):Prop:=SZ P (fun _ _=>False) n c N X T σ w
section
variable {P:Fa} {B:List Da→Aa→Prop} {n:Nat} {N T:Act→Aa→Prop} {X:List (Nat×(Act→Aa→Prop))} {σ:List Ent} {w:Aa}
instance {c:Code}:CoeFun (SZ P B n c N X T σ w) fun _=>∀ a,Kn n σ a→c.wp P (Qof N X T B) a w:=⟨SZ.h⟩
theorem Zng{c:Code}(τ:List Ent)(hs:Sub τ σ)(h:SZ P B n c N X T τ w):SZ P B n c N X T σ w:=.mk fun a ha=>h a (ha.sub hs)
theorem Qme{x y:Code}(h:∀ K:Act→Aa→Prop,(∀ τ u,SZ P B n y N X T τ u→∀ a,Kn n τ a→K a u)→SZ P B n x K X T σ w):SZ P B n (.seq x y) N X T σ w:=.mk fun a ha=>by
 refine wp_seq (Code.wp_mono (fun e a w q=>?_) (h (fun a w=>y.wp P (Qof N X T B) a w) (fun τ u hy a ha=>hy a ha) a ha));cases e <;> exact q
theorem Yw(h:∀ a,Kn n σ a→N a w):SZ P B n .skip N X T σ w:=.mk fun a ha=>wp_skip (h a ha)
theorem Xo(h:∀ a,Kn n σ a→T a w):SZ P B n .ret N X T σ w:=.mk fun a ha=>wp_ret (h a ha)
theorem Xea{id:Nat}{k:Act→Aa→Prop}(hk:X.lookup id=some k)(h:∀ a,Kn n σ a→k a w):SZ P B n (.exit id) N X T σ w:=.mk fun a ha=>wp_exit (by
 show match X.lookup id with|some k=>k a w|none=>False
 rw [hk];exact h a ha)
theorem Yx{id:Nat}{c:Code}(h:SZ P B n c N ((id,N)::X) T σ w):SZ P B n (.block id c) N X T σ w:=.mk fun a ha=>by
 refine wp_block (Code.wp_mono (fun e a w q=>?_) (h a ha))
 cases e with
 | exit id' =>
  simp only [Exit.inBlock];by_cases he:id'=id;subst he;rw [if_pos rfl];simpa [Qof,List.lookup] using q;rw [if_neg he];simp only [Qof] at q ⊢;rw [List.lookup_cons] at q;have:(id' == id)=false:=by simpa using he
  rw [this] at q;exact q
 | _=>exact q
theorem Xtc{x:Ea}{b:Bool}{p q:Code}(hx:Ev n σ True x (.bool b))(h1:b=true→SZ P B n p N X T σ w)(h2:b=false→SZ P B n q N X T σ w):SZ P B n (.cond x p q) N X T σ w:=.mk fun a ha =>
 wp_cond_split (hx a ha trivial) (fun h=>h1 h a ha) (fun h=>h2 h a ha)
theorem Vaf{x:Ea}{p q:Code}(hx:Ev n σ True x (.bool true))(h1:SZ P B n p N X T σ w):SZ P B n (.cond x p q) N X T σ w:=Xtc hx (fun _=>h1) (fun h=>by cases h)
theorem Qne{x:Ea}{p q:Code}(hx:Ev n σ True x (.bool false))(h1:SZ P B n q N X T σ w):SZ P B n (.cond x p q) N X T σ w:=Xtc hx (fun h=>by cases h) (fun _=>h1)
theorem Wed{t:Nat}{g:Bool}{y:Code}{b0:Bool}(τ:List Ent)(hs:Sub ((t,True,.bool g) :: τ) σ)(hx:look σ t=some (True,.bool g))
 (hy:g=false→SZ P B n y (fun a w'=>Kn n ((t,True,.bool b0) :: τ) a∧w'=w) X T σ w) (hN:∀ a,Kn n ((t,True,.bool (g || b0)) :: τ) a→N a w) :
 SZ P B n (.cond (.tmp t) .skip y) N X T σ w:=by
 refine Xtc (Zd hx) (fun hg=>?_) (fun hg=>?_);subst hg;exact Yw fun a ha=>hN a (by simpa using ha.sub hs);refine .mk fun a ha=>?_;refine Code.wp_mono (fun e a' w' q=>?_) (hy hg a ha)
 cases e with
 | normal=>obtain ⟨q1,rfl⟩:=q;subst hg;exact hN a' (by simpa using q1)
 | _=>exact q
theorem Qua{id:Nat}{l:List Oper}(cl:List Nat)(h:SR P (ZA B) l cl [] w n N 0 l σ w):SZ P B n (.region id l.toArray false) N X T σ w:=.mk fun a ha=>by
 have h1:=h (fun j o ho=>by simpa using ho) a ha;have e:lvOf []=fun _=>true:=by funext i;simp [lvOf]
 rw [e] at h1
 have h2:RS P (ZA B) l.toArray (clOf cl) (fun _=>true) w (fun a w=>(Qof N X T B) .normal a w) (Aea l.toArray.size) a w:=by
  rw [List.range_eq_range'];simpa [Qof] using h1
 exact wpIn_wide.1 (Zcc (ρ:=none) (fun _ _ _ h=>h) h2)
theorem Xs{id:Nat}{l:List Oper}(cl:List Nat)(lv:List Bool)(ms:List Nat)(hm:P.follows .mixedOrders=true)(hok:okB l cl lv ms=true)
 (h:SR P NoP l cl lv w.drew n N 0 l σ w.drew):SZ P B n (.region id l.toArray true) N X T σ w:=.mk fun a ha=>by
 have h1:=h (fun j o ho=>by simpa using ho) a ha
 have h2:RS P NoP l.toArray (clOf cl) (lvOf lv) w.drew (fun a w=>(Qof N X T B) .normal a w) (Aea l.toArray.size) a w.drew:=by
  rw [List.range_eq_range'];simpa [Qof] using h1
 exact Wuf (Wwf hok) hm h2
theorem Wqb{c:Code}{α:Type}(I:α→Aa→Prop)(σf:α→List Ent)(μ:α→Nat)(x0:α)(h0:I x0 w)(hs:Sub (σf x0) σ)
 (round:∀ x w,I x w→SZ P B n c (fun a' w'=>∃ y,Kn n (σf y) a'∧I y w'∧μ y < μ x) X T (σf x) w):SZ P B n (.loop c) N X T σ w:=.mk fun a ha=>by
 intro b k cs
 have key:∀ m x a w,μ x=m→Kn n (σf x) a→I x w→
   ∃ e a' w',Qof N X T B e a' w'∧Arrives P (lone (b.at a (.code c :: .inLoop c::k)) cs w) b k cs e a' w':=by
  intro m
  induction m using Nat.strongRecOn with
  | _ m ih =>
   intro x a w hm hk hI
   obtain ⟨e,a₁,w₁,hq,harr⟩:=round x w hI a hk b (.inLoop c::k) cs
   cases e with
   | normal =>
    obtain ⟨y,hk1,hI1,hlt⟩:=hq
    obtain ⟨e₂,a₂,w₂,hq₂,harr₂⟩:=ih (μ y) (hm▸hlt) y a₁ w₁ rfl hk1 hI1
    exact ⟨e₂,a₂,w₂,hq₂,.of_steps (Steps.trans harr (.one step_inLoop)) harr₂⟩
   | exit id=>exact ⟨.exit id,a₁,w₁,hq,.pass (x:=.inLoop c) rfl (fun _ _=>.inl Os) harr⟩
   | goto l=>exact hq.elim
   | ret=>exact ⟨.ret,a₁,w₁,hq,.pass (x:=.inLoop c) rfl (fun _ _=>.inl Os) harr⟩
   | panic ch=>exact ⟨.panic ch,a₁,w₁,hq,.pass (x:=.inLoop c) rfl (fun _ _=>.inl Os) harr⟩
   | outgrown=>exact hq.elim
 obtain ⟨e,a',w',hq,harr⟩:=key _ x0 a w rfl (ha.sub hs) h0;exact ⟨e,a',w',hq,.of_steps (.one step_loop) harr⟩
theorem Vv{c:Code}{α:Type}(I:α→Aa→Prop)(σc:List Ent)(σf:α→List Ent)(μ:α→Nat)(x0:α)(h0:I x0 w)(hs:Sub (σf x0 ++ σc) σ)
  (round:∀ x w,I x w→SZ P B n c (fun a' w'=>∃ y,Kn n (σf y ++ σc) a'∧I y w'∧μ y < μ x) X T (σf x ++ σc) w):SZ P B n (.loop c) N X T σ w :=
 Wqb I (fun x=>σf x ++ σc) μ x0 h0 hs round
/-! ends of a function -/
theorem Qoe{fn:Func}{R:Ga→Aa→Prop}(hr:fn.results = #[])(h:R (.tuple #[]) w):∀ a,Kn n σ a→bodyPost P fn (fun e w'=>∃ v,e = .returned v∧R v w') .ret a w:=fun a ha =>
 bodyPost_ret (results_none hr _ _ _) ha.2.1 ⟨_,rfl,h⟩
theorem Yfa{fn:Func}{R:Ga→Aa→Prop}(hr:fn.results = #[])(h:R (.tuple #[]) w):∀ a,Kn n σ a→bodyPost P fn (fun e w'=>∃ v,e = .returned v∧R v w') .normal a w:=fun a ha =>
 bodyPost_end (results_none hr _ _ _) ha.2.1 ⟨_,rfl,h⟩
theorem Wj{fn:Func}{R:Ga→Aa→Prop}{t:Nat}{v:Ga}(hr:fn.results = #[.tmp t])(hl:look σ t=some (True,v))(h:R v w):∀ a,Kn n σ a→bodyPost P fn (fun e w'=>∃ v,e = .returned v∧R v w') .ret a w:=fun a ha =>
 bodyPost_ret (results_tmp hr _ _ _) ha.2.1 ⟨_,rfl,by have:=ha.at_ hl trivial;simp [this];exact h⟩
def resOf(us:List Ga):Ga:=if h:us.toArray.size=1 then us.toArray[0] else .tuple us.toArray
theorem Zfd{fn:Func}{R:Ga→Aa→Prop}{ts:List Nat}{vs:List Ga}(hr:fn.results=(ts.map ResultVar.tmp).toArray)(h2:Aaa ts.length 1=false)(hl:ts.map (look σ)=vs.map (fun v=>some (True,v)))(h:R (.tuple vs.toArray) w) :
 ∀ a,Kn n σ a→bodyPost P fn (fun e w'=>∃ v,e = .returned v∧R v w') .ret a w:=fun a ha=>by
 refine bodyPost_ret (v:=.tuple vs.toArray) ?_ ha.2.1 ⟨_,rfl,h⟩
 have hvs:∀ (ts:List Nat) (vs:List Ga),ts.map (look σ)=vs.map (fun v=>some (True,v))→ts.map (fun t=>a.tmps.getD t undef)=vs:=by
  intro ts
  induction ts with
  | nil=>intro vs h;cases vs with
   | nil=>rfl
   | cons=>simp at h
  | cons t ts ih =>
   intro vs h
   cases vs with
   | nil=>simp at h
   | cons v vs =>
    simp only [Aza,List.cons.injEq] at h;have:=ha.at_ h.1 trivial;rw [Aza,ih vs h.2];simp [this]
 have hrun:∀ (ts:List Nat),(ts.mapM (fun t=>(pure (a.tmps.getD t undef):Sem Ga))).run P w = .ok (ts.map fun t=>a.tmps.getD t undef) w:=by
  intro ts
  induction ts with
  | nil=>rfl
  | cons t ts ih =>
   rw [Bha];simp only [Sem.run_bind,Sem.run_pure,Ka] at ih ⊢;rw [ih];rfl
 have hres:(results fn a.tmps).run P w = .ok (resOf (ts.map fun t=>a.tmps.getD t undef)) w:=by
  unfold results;rw [hr,Bia];simp only [Sem.run_bind,Sem.run_map,List.mapM_map];have:=hrun ts;simp only [Function.comp_def];rw [this];rfl
 rw [hres,hvs ts vs hl];have hlen:vs.length=ts.length:=by have:=congrArg List.length hl;simpa using this.symm
 unfold resOf;rw [dif_neg (by simp only [Bda,hlen];intro he;rw [he] at h2;simp at h2)]
def argsK:Nat→List Ga→List Ent
 | _,[]=>[]
 | k,v::vs=>(k,True,v)::argsK (k+1) vs
theorem Xua:∀ (vs:List Ga) (k t:Nat) (c:Prop) (v:Ga),look (argsK k vs) t=some (c,v)→c=True∧k≤t∧vs[t-k]? = some v
 | [],_,_,_,_,h=>by simp [argsK,look] at h
 | u::vs,k,t,c,v,h=>by
  unfold argsK look at h
  cases hq:Aaa k t with
  | true =>
   rw [hq] at h;obtain rfl:=Ada hq;simp only [Wug] at h;injection h with h;injection h with e1 e2;subst e2;exact ⟨e1.symm,Ala _,by simp⟩
  | false =>
   rw [hq] at h;obtain ⟨h1,h2,h3⟩:=Xua vs (k+1) t c v h;refine ⟨h1,O,?_⟩;rw [show t-k=(t-(k+1))+1 by omega];simpa using h3
theorem Vo{f:FuncId}{fn:Func}{c:Code}{args:List Ga}{R:Ga→Aa→Prop}{m:Nat}(hf:P.funcs[f]? = some fn)(hb:fn.body=some c)(hm:args.length+(fn.ntmps-args.length)=m)
 (σ0:List Ent) (hs:Sub σ0 (argsK 0 args))
 (hh:SC P m c (fun a w=>bodyPost P fn (fun e w'=>∃ v,e = .returned v∧R v w') .normal a w) [] (fun a w=>bodyPost P fn (fun e w'=>∃ v,e = .returned v∧R v w') .ret a w)
 σ0 w):Ret P f args.toArray w R:=by
 unfold Ret;refine calls_of_wp hf hb (Code.wp_mono (fun e a w q=>?_) (hh _ (Kn.sub (σ:=argsK 0 args) ?_ hs)))
 cases e with
 | normal=>exact q
 | ret=>exact q
 | panic ch=>exact q.2.elim
 | _=>exact q.elim
 refine ⟨by simp [← hm],rfl,fun t c' v hl=>?_⟩;obtain ⟨rfl,_,h3⟩:=Xua args 0 t c' v hl;refine ⟨fun _=>?_,fun hn=>absurd trivial hn⟩;rw [Bka] at h3;have hlt:t<args.length:=(Aua.1 h3).1;simp [Bla,hlt,h3];simpa [hlt] using h3
end
section
variable {w w':Aa} {base:Nat} {e:Ba} {z:Nat} {v:Ga} {m:Nat} {xs:List Ga}
theorem Zpa(h:w.ownsRow base e z v m xs):∃ a c,v = .slice a m c∧m≤c:=by
 rcases h.2 with ⟨h1,h2⟩|⟨g,cap,cur,h1,_,_,h4,_⟩;subst h2;exact ⟨none,0,h1,Ala _⟩;exact ⟨_,cap,h1,h4⟩
theorem Zog(h:w.ownsRow base e z v m xs){b o c:Nat}{k:Nat}(hv:v = .slice (some ⟨b,o,none⟩) k c):RowAt w b o xs∧o=0∧base≤b:=by
 rcases h.2 with ⟨h1,h2⟩|⟨g,cap,cur,h1,h2,h3,h4,h5,h6,h7⟩;rw [h1] at hv;injection hv with hv;cases hv;rw [h1] at hv;injection hv with hv _ _;injection hv with hv;injection hv with e1 e2 _;subst e1;subst e2;refine ⟨fun j u hj=>?_,rfl,h2⟩;have:=h.cells (g:=g) (by rw [h1];rfl) j u hj;rwa [Addr.add_lit] at this
theorem Qva(h:w.ownsRow base e z v m xs)(hm:0<m):∃ b c,v = .slice (some ⟨b,0,none⟩) m c∧m≤c∧RowAt w b 0 xs∧base≤b:=by
 rcases h.2 with ⟨_,h2⟩|⟨g,cap,cur,h1,h2,h3,h4,h5,h6,h7⟩;omega;obtain ⟨q1,_,q3⟩:=Zog h h1;exact ⟨g,cap,h1,h4,q1,q3⟩
theorem Ym{row:Option Nat}(h:w.ownsRow base e z v m xs)(hg:w.grownBy w' row)(hne:v.ownBlock=none∨v.ownBlock≠row):w'.ownsRow base e z v m xs:=h.kept hg hne
theorem Xw(h:w.ownsRow base e z v m xs)(hg:G w w'):w'.ownsRow base e z v m xs:=h.kept (hg.only none) (by cases hv:v.ownBlock <;> simp)
theorem Wfd(h:w.ownsRow base e z v m xs):w.drew.ownsRow base e z v m xs:=h
theorem Je(w:Aa)(base:Nat)(e:Ba)(z:Nat):w.ownsRow base e z (.slice none 0 0) 0 []:=World.ownsRow_nil w base e z
theorem Zza(h:G w w')(hb:base≤w.heap.size):Below base w w':=Below.mono h hb
theorem Zqa{a:Aa}{row:Option Nat}(h:Below base a w)(hg:w.grownBy w' row)(hb:base≤w.heap.size)(hr:∀ k,row=some k→base≤k):Below base a w':=h.grown hg hb hr
theorem Jf{a:Aa}{row:Option Nat}(h:G a w)(hg:w.grownBy w' row)(hr:∀ k,row=some k→a.heap.size≤k):G a w':=Below.grown h hg h.size hr
theorem Zpg(h:w.ownsRow base e z v m xs){b:Nat}(hb:w.heap.size≤b):v.ownBlock≠some b:=fun hv=>by
 have:=(h.lt b hv).2;omega
end
section
variable {P:Fa} {n:Nat} {σ:List Ent} {c:Prop} {wb:Aa} {ty:Ba} {v:Ga}
/-! structs of Zed cells, compared -/
def Yyb(P:Fa)(t:Ba):Option Nat:=match P.underlying t with
 | some (.int _)=>some 0
 | some .string=>some 1
 | some .bool=>some 2
 | _=>none
def Zgd(P:Fa):Nat→List Field→Option (List Nat)
 | _,[]=>some []
 | k,f::fs=>if Aaa f.offset k&&f.name != "_" then match Yyb P f.type,Zgd P (k+1) fs with
   | some a,some l=>some (a::l)
   | _,_=>none
  else none
def Zgc(P:Fa)(t:Ba):Option (List Nat):=match P.underlying t with
 | some (.struct fs)=>if P.stoodInHeld t=false∧P.eqGuardType P.depth t=false then Zgd P 0 fs.toList else none
 | _=>none
def eqL:List Nat→List Ga→List Ga→Option Bool
 | [],[],[]=>some true
 | 0::ks,.int k a::l,.int k' b::l'=>if k=k' then match eqL ks l l' with|some r=>some (decide (a=b)&&r)|none=>none else none
 | 1::ks,.string a::l,.string b::l'=>match eqL ks l l' with|some r=>some (decide (a.data.toList=b.data.toList)&&r)|none=>none
 | 2::ks,.bool a::l,.bool b::l'=>match eqL ks l l' with|some r=>some (a == b&&r)|none=>none
 | _,_,_=>none
theorem Wjc{t:Ba}(ht:Va P t=true){cs:Array Ga}{o:Nat}{v:Ga}(hv:cs[o]? = some v)(w:Aa):(part t cs o).run P w = .ok v w:=by
 have:(isAgg t).run P w = .ok false w:=by
  unfold Va at ht;split at ht <;> try (cases ht;done)
  rename_i d hd1 hd2 hd;simp only [isAgg,Sem.run_bind,run_underlying hd,Ka];cases d <;> simp_all
 simp [part,this,hv]
theorem Qpe{t:Ba}{k:Nat}(h:Yyb P t=some k):Va P t=true:=by
 unfold Yyb at h;unfold Va;split at h <;> simp_all
theorem eqL_0{u u':Ga}{b:Bool}(he:eqL [0] [u] [u']=some b):∃ k a a',u = .int k a∧u' = .int k a'∧b=decide (a=a'):=by
 unfold eqL at he;split at he;rename_i h1 _ _;cases h1;rename_i h1 h2 h3;injection h2 with h2 h2';injection h3 with h3 h3';injection h1 with h0 h1';subst h2' h3' h2 h3 h1';split at he;rename_i hk;subst hk;simp [eqL] at he;exact ⟨_,_,_,rfl,rfl,he.symm⟩;cases he;rename_i h1 _ _;cases h1;rename_i h1 _ _;cases h1;cases he
theorem eqL_1{u u':Ga}{b:Bool}(he:eqL [1] [u] [u']=some b):∃ a a',u = .string a∧u' = .string a'∧b=decide (a.data.toList=a'.data.toList):=by
 unfold eqL at he;split at he;rename_i h1 _ _;cases h1;rename_i h1 _ _;cases h1;rename_i h1 h2 h3;injection h2 with h2 h2';injection h3 with h3 h3';injection h1 with h0 h1';subst h2' h3' h2 h3 h1';simp only [eqL,Bool.and_true,Option.some.injEq] at he;exact ⟨_,_,rfl,rfl,he.symm⟩;rename_i h1 _ _;cases h1;cases he
theorem eqL_2{u u':Ga}{b:Bool}(he:eqL [2] [u] [u']=some b):∃ a a',u = .bool a∧u' = .bool a'∧b=(a == a'):=by
 unfold eqL at he;split at he;rename_i h1 _ _;cases h1;rename_i h1 _ _;cases h1;rename_i h1 _ _;cases h1;rename_i h1 h2 h3;injection h2 with h2 h2';injection h3 with h3 h3';injection h1 with h0 h1';subst h2' h3' h2 h3 h1';simp only [eqL,Bool.and_true,Option.some.injEq] at he;exact ⟨_,_,rfl,rfl,he.symm⟩;cases he
theorem Wye{t:Ba}{k d:Nat}(h:Yyb P t=some k){u u':Ga}{b:Bool}(he:eqL [k] [u] [u']=some b)(w:Aa):(Op.equalIn (d+1) t u u').run P w = .ok b w:=by
 unfold Yyb at h;split at h <;> try (cases h;done)
 ·rename_i k0 hu
  injection h with h;subst h;obtain ⟨k,a,a',rfl,rfl,rfl⟩:=eqL_0 he;rw [run_equalIn_int w d t _ k0 _ _ hu];congr 1
 ·rename_i hu
  injection h with h;subst h;obtain ⟨a,a',rfl,rfl,rfl⟩:=eqL_1 he;rw [run_equalIn_string w d t _ _ hu];congr 1;rw [ByteArray.toList_eq,ByteArray.toList_eq];rw [Bta];simp
 ·rename_i hu
  injection h with h;subst h;obtain ⟨a,a',rfl,rfl,rfl⟩:=eqL_2 he;rw [run_equalIn_bool' w d t _ _ hu]
theorem Qqe{k:Nat}{ks:List Nat}{l l':List Ga}{b:Bool}(h:eqL (k::ks) l l'=some b):∃ u u' r r' b1 b2,l=u::r∧l'=u'::r'∧eqL [k] [u] [u']=some b1∧eqL ks r r'=some b2∧b=(b1&&b2):=by
 unfold eqL at h;split at h;rename_i h1;cases h1;rename_i h1;injection h1 with h1 h1';subst h1 h1';split at h;rename_i hk;subst hk;split at h;rename_i r hr;injection h with h;exact ⟨_,_,_,_,_,r,rfl,rfl,by simp [eqL],hr,h.symm⟩;cases h;cases h;rename_i h1;injection h1 with h1 h1';subst h1 h1';split at h;rename_i r hr;injection h with h;exact ⟨_,_,_,_,_,r,rfl,rfl,by simp [eqL],hr,h.symm⟩;cases h;rename_i h1;injection h1 with h1 h1';subst h1 h1';split at h;rename_i r hr;injection h with h;exact ⟨_,_,_,_,_,r,rfl,rfl,by simp [eqL],hr,h.symm⟩;cases h;cases h
theorem Wkc(d:Nat):∀ (fs:List Field) (ks:List Nat) (k:Nat) (l l':List Ga) (pre pre':List Ga) (b:Bool),Zgd P k fs=some ks→pre.length=k→pre'.length=k→eqL ks l l'=some b→
  ∀ w,(Op.eqFields (d+1) (pre++l).toArray (pre'++l').toArray fs).run P w = .ok b w
 | [],ks,k,l,l',pre,pre',b,hf,h1,h2,he,w=>by
  injection hf with hf;subst hf;unfold eqL at he;split at he <;> simp_all [Op.eqFields]
 | f::fs,ks,k,l,l',pre,pre',b,hf,h1,h2,he,w=>by
  unfold Zgd at hf;split at hf;rename_i hc;simp only [Aca,bne_iff_ne,ne_eq] at hc;have hc:=And.intro (Ada hc.1) hc.2;split at hf;rename_i a ls ha hls;injection hf with hf;subst hf;obtain ⟨u,u',r,r',b1,b2,rfl,rfl,e1,e2,rfl⟩:=Qqe he;have ho:=Qpe ha;have g1:(pre++u::r).toArray[f.offset]? = some u:=by simp [hc.1,← h1]
  have g2:(pre'++u'::r').toArray[f.offset]? = some u':=by simp [hc.1,← h2]
  have ih:=Wkc d fs ls (k+1) r r' (pre++[u]) (pre'++[u']) b2 hls (by simp [h1]) (by simp [h2]) e2 w;rw [Baa,Baa,Cga,Cga] at ih;simp only [Op.eqFields,if_pos hc.2,Sem.run_bind,Wjc ho g1,Wjc ho g2,Ka,Wye ha e1];cases b1;simp;simpa using ih;cases hf;cases hf
theorem Qx{t u:Ba}{x y:Ea}{ks:List Nat}{l l':List Ga}{b:Bool}(ht:Zgc P t=some ks)(h:Ev n σ c x (.agg l.toArray))(h':Ev n σ c y (.agg l'.toArray))(he:eqL ks l l'=some b):Rd P n σ c wb (.binOp .eql t x y u) ty (.bool b):=.mk fun d pos after gd a ha hc w1 _=>by
 unfold Zgc at ht;split at ht;rename_i fs hfs;split at ht;rename_i hk;have hfo:P.fieldsOf t=fs:=by simp [Program.fieldsOf,hfs]
 have k2:=run_equalIn_struct w1 9999 t l.toArray l'.toArray (by rw [hfo];exact hfs) hk.1;have k3:=Wkc 9998 fs.toList ks 0 l l' [] [] b ht rfl rfl he w1;simp only [Bxa] at k3;rw [hfo,k3] at k2;simp [execOp,h a ha hc,h' a ha hc,run_eqGuard_agg w1 .eql t x y l.toArray l'.toArray hk.2,run_eql_struct,k2];cases ht;cases ht
theorem Zhd{t u:Ba}{x y:Ea}{ks:List Nat}{l l':List Ga}{b:Bool}(ht:Zgc P t=some ks)(h:Ev n σ c x (.agg l.toArray))(h':Ev n σ c y (.agg l'.toArray))(he:eqL ks l l'=some b):Rd P n σ c wb (.binOp .neq t x y u) ty (.bool (!b)):=.mk fun d pos after gd a ha hc w1 _=>by
 unfold Zgc at ht;split at ht;rename_i fs hfs;split at ht;rename_i hk;have hfo:P.fieldsOf t=fs:=by simp [Program.fieldsOf,hfs]
 have k2:=run_equalIn_struct w1 9999 t l.toArray l'.toArray (by rw [hfo];exact hfs) hk.1;have k3:=Wkc 9998 fs.toList ks 0 l l' [] [] b ht rfl rfl he w1;simp only [Bxa] at k3;rw [hfo,k3] at k2;simp [execOp,h a ha hc,h' a ha hc,run_eqGuard_agg w1 .neq t x y l.toArray l'.toArray hk.2,run_neq_struct,k2];cases ht;cases ht
/-! an array's element, by value -/
def Zid(P:Fa)(t:Ba):Option Nat:=match P.underlying t with
 | some (.array m e)=>if Va P e=true∧tySize P e=some 1 then some m else none
 | _=>none
theorem Yee{t m:Nat}{x y:Ea}{cs:Array Ga}{k:IntKind}{i:Int}{v:Ga}(ht:Zid P t=some m)(h:Ev n σ c x (.agg cs))(h':Ev n σ c y (.int k i))(hi:c→0≤i∧i<m)(hv:c→cs[i.toNat]? = some v) :
 Rd P n σ c wb (.index t x y) ty v:=.mk fun d pos after gd a ha hc w1 _=>by
 obtain ⟨h0,h1⟩:=hi hc;unfold Zid at ht;split at ht;rename_i m' e hu;split at ht;rename_i hk;injection ht with ht;subst ht;obtain ⟨ho,hz⟩:=hk;unfold tySize at hz
 cases hi2:P.info? e with
 | none=>rw [hi2] at hz;cases hz
 | some inf =>
  rw [hi2] at hz;injection hz with hz
  have hs:(sizeOf e).run P w1 = .ok 1 w1:=by
   have:=hz;simp [sizeOf,typeInfo,run_program,hi2,hz]
  simp [execOp,h a ha hc,h' a ha hc,Instr.index,asIntOf,run_underlying hu,h0,h1,hs,Wjc ho (hv hc)]
 cases ht;cases ht
/-! nil -/
def nilV:Ga→Bool
 | .nilIface=>true
 | _=>false
theorem Qjd{t u:Ba}{x:Ea}{e:Ga}(ht:P.isIface t=true)(h:Ev n σ c x e)(he:e = .nilIface∨∃ a b,e = .iface a b):Rd P n σ c wb (.binOp .neq t x (.const .nilIface) u) ty (.bool (!nilV e)):=.mk fun d pos after gd a ha hc w1 _=>by
 rcases he with rfl|⟨t1,u1,rfl⟩;simp [execOp,h a ha hc,Znb,eqGuard,binOp,Op.equal,Op.maxDepth,run_equalIn_nil_nil_at w1 9999 t ht,nilV];simp [execOp,h a ha hc,Znb,eqGuard,binOp,Op.equal,Op.maxDepth,run_equalIn_iface_nil w1 9999 t ht,nilV]
/-! slices of slices -/
theorem Yzb{e:Ba}{i:TypeInfo}(hi:P.info? e=some i)(w:Aa):(sizeOf e).run P w = .ok i.size w:=by simp [sizeOf,typeInfo,run_program,hi]
theorem Qlb{t e z by_:Nat}{x y:Ea}{o:Option Addr}{m q:Nat}{k:IntKind}{j:Int}(ht:tyElem P t=some (e,z,by_))(h:Ev n σ c x (.slice o m q))(h':Ev n σ c y (.int k j))(hi:c→0≤j∧j≤q) :
 Rd P n σ c wb (.slice t x none (some y) none) ty (.slice o j.toNat q):=.mk fun d pos after gd a ha hc w1 _=>by
 obtain ⟨hu,i,hin,hz,_⟩:=Ue ht;have e1:=hi hc;have e2:o.map (fun b=>Addr.add b 0)=o:=by cases o <;> simp [Addr.add]
 simp only [execOp,h a ha hc,h' a ha hc,Instr.sliceAt,Ara,Aya,Sem.run_bind,run_underlying hu,Ka];simp [Instr.slice,run_underlying hu,Instr.sliceBounds,Instr.sliceBound,asIntOf,e1,Yzb hin,e2]
theorem Zob{t e z by_:Nat}{x y:Ea}{b off:Nat}{m q:Nat}{k:IntKind}{i:Int}(ht:tyElem P t=some (e,z,by_))(h:Ev n σ c x (.slice (some ⟨b,off,none⟩) m q))(h':Ev n σ c y (.int k i))(hi:c→0≤i∧i≤m) :
 Rd P n σ c wb (.slice t x (some y) none none) ty (.slice (some ⟨b,if q=i.toNat then off else off+i.toNat*z,none⟩) (m-i.toNat) (q-i.toNat)):=.mk fun d pos after gd a ha hc w1 _=>by
 obtain ⟨hu,inf,hin,hz,_⟩:=Ue ht;have e1:=hi hc;simp only [execOp,h a ha hc,h' a ha hc,Instr.sliceAt,Ara,Aya,Sem.run_bind,run_underlying hu,Ka];simp [Instr.slice,run_underlying hu,Instr.sliceBounds,Instr.sliceBound,asIntOf,e1,Yzb hin,hz];split <;> simp [Addr.add]
theorem Qmb{f:FuncId}{fs cs:Array Ea}{vs us:List Ga}(h:Yta n σ c fs.toList vs)(h':Yta n σ c cs.toList us):Rd P n σ c wb (.makeFunc (.func f) fs cs) ty (.func (.func f) vs.toArray us.toArray):=.mk fun d pos after gd a ha hc w1 _=>by
 have e1:=h a ha hc;have e2:=h' a ha hc;have e3:fs.map a.eval=vs.toArray:=by rw [← e1,← Array.toList_map,Bwa]
 have e4:cs.map a.eval=us.toArray:=by rw [← e2,← Array.toList_map,Bwa]
 simp [execOp,Instr.makeFunc,e3,e4]
def Zhc(P:Fa)(t:Ba):Bool:=match P.underlying t with|some (.interface _)=>false|some _=>true|none=>false
theorem Qre{t:Ba}{x:Ea}{u:Ga}(ht:Zhc P t=true)(h:Ev n σ c x u):Rd P n σ c wb (.makeInterface t x) ty (.iface t u):=.mk fun d pos after gd a ha hc w1 _=>by
 unfold Zhc at ht;split at ht <;> try (cases ht;done)
 rename_i d' hd1 hd;simp only [execOp,h a ha hc,Instr.makeInterface,Sem.run_bind,run_underlying hd,Ka];cases d' <;> simp_all
/-! numbers of other sizes -/
def Vtb(P:Fa)(t:Ba):Option IntKind:=match P.underlying t with|some (.int k)=>some k|_=>none
theorem Xab{t:Ba}{k:IntKind}(h:Vtb P t=some k):P.underlying t=some (.int k):=by
 unfold Vtb at h;split at h;rename_i k' hk;injection h with h;subst h;exact hk;cases h
theorem Yfe{s t:Ba}{x:Ea}{k k1 k2:IntKind}{i:Int}(hs:Vtb P s=some k1)(ht:Vtb P t=some k2)(h:Ev n σ c x (.int k i)):Rd P n σ c wb (.convert s t x) ty (.int k2 (k2.wrap i)):=.mk fun d pos after gd a ha hc w1 _=>by
 simp [execOp,h a ha hc,convert,run_underlying (Xab hs),run_underlying (Xab ht),Conv.intToInt]
theorem Qse{s t:Ba}{x:Ea}{k k1 k2:IntKind}{i r:Int}(hs:Vtb P s=some k1)(ht:Vtb P t=some k2)(h:Ev n σ c x (.int k i))(hr:c→k2.wrap i=r):Rd P n σ c wb (.convert s t x) ty (.int k2 r):=.mk fun d pos after gd a ha hc w1 hg=>by
 have:=Yfe (wb:=wb) (ty:=ty) hs ht h d pos after gd a ha hc w1 hg;rw [hr hc] at this;exact this
theorem Yge{t u:Ba}{x y:Ea}{k:IntKind}{i j r:Int}(h:Ev n σ c x (.int k i))(h':Ev n σ c y (.int k j))(hr:c→k.wrap (i-j)=r):Rd P n σ c wb (.binOp .sub t x y u) ty (.int k r):=.mk fun d pos after gd a ha hc w1 hg=>by
 have:=Ybe (P:=P) (t:=t) (u:=u) (wb:=wb) (ty:=ty) h h' d pos after gd a ha hc w1 hg;rw [hr hc] at this;exact this
/-! results that lie in cells -/
def rdRes(tmps:Array Ga):ResultVar→Sem Ga
 | .tmp t=>pure (tmps.getD t undef)
 | .cell a t=>do loadVar t (← asAddr (tmps.getD a undef))
def EvR(P:Fa)(n:Nat)(σ:List Ent)(w:Aa)(rs:List ResultVar)(vs:List Ga):Prop:=∀ a,Kn n σ a→(rs.mapM (rdRes a.tmps)).run P w = .ok vs w
theorem Ub{w:Aa}:EvR P n σ w [] []:=fun _ _=>rfl
theorem Wlc{w:Aa}{r:ResultVar}{rs:List ResultVar}{vs:List Ga}(h:∀ a,Kn n σ a→(rdRes a.tmps r).run P w = .ok v w)(k:EvR P n σ w rs vs):EvR P n σ w (r::rs) (v::vs):=fun a ha=>by
 have h1:=h a ha;have h2:=k a ha;rw [Bha];simp only [Sem.run_bind,Sem.run_pure,h1,h2,Ka]
theorem Jna{w:Aa}{t:Nat}{rs:List ResultVar}{vs:List Ga}(h:look σ t=some (True,v))(k:EvR P n σ w rs vs):EvR P n σ w (.tmp t::rs) (v::vs):=Wlc (fun a ha=>by
 have:=ha.at_ h trivial;simp [rdRes,this]) k
theorem Zra{w:Aa}{t b o z:Nat}{T:Ba}{l:List Ga}{rs:List ResultVar}{vs:List Ga}(h:look σ t=some (True,.pointer (some ⟨b,o,none⟩)))(ht:tyAgg P T=some z)(hl:l.length=z)(hc:RowAt w b o l)(k:EvR P n σ w rs vs):EvR P n σ w (.cell t T::rs) (.agg l.toArray::vs):=Wlc (fun a ha=>by
 have:=ha.at_ h trivial;have h2:=Yxc ht hl hc;simp [rdRes,this,asAddr,h2]) k
theorem Xbb{w:Aa}{t b o:Nat}{T:Ba}{rs:List ResultVar}{vs:List Ga}(h:look σ t=some (True,.pointer (some ⟨b,o,none⟩)))(ht:Va P T=true)(hc:w.cell? ⟨b,o,none⟩=some v)(k:EvR P n σ w rs vs):EvR P n σ w (.cell t T::rs) (v::vs):=Wlc (fun a ha=>by
 have:=ha.at_ h trivial;have h2:=Ywc ht hc;simp [rdRes,this,asAddr,h2]) k
theorem Yua{fn:Func}{R:Ga→Aa→Prop}{w:Aa}{rs:List ResultVar}{vs:List Ga}(hr:fn.results=rs.toArray)(h2:Aaa rs.length 1=false)(hl:EvR P n σ w rs vs)(hlen:vs.length=rs.length)(h:R (.tuple vs.toArray) w) :
 ∀ a,Kn n σ a→bodyPost P fn (fun e w'=>∃ v,e = .returned v∧R v w') .ret a w:=fun a ha=>by
 refine bodyPost_ret (v:=.tuple vs.toArray) ?_ ha.2.1 ⟨_,rfl,h⟩;have h1:=hl a ha
 have hres:results fn a.tmps=(do let vs ← fn.results.mapM (rdRes a.tmps);pure (if h:vs.size=1 then vs[0] else .tuple vs)):=by
  unfold results;congr 1
 rw [hres,hr,Bia];simp only [Sem.run_bind,Sem.run_map,h1,Ka];have hn:vs.length≠1:=by rw [hlen];intro he;rw [he] at h2;cases h2
 simp [hn]
theorem Wea{fn:Func}{R:Ga→Aa→Prop}{w:Aa}{r:ResultVar}(hr:fn.results = #[r])(hl:EvR P n σ w [r] [v])(h:R v w) :
 ∀ a,Kn n σ a→bodyPost P fn (fun e w'=>∃ v,e = .returned v∧R v w') .ret a w:=fun a ha=>by
 refine bodyPost_ret (v:=v) ?_ ha.2.1 ⟨_,rfl,h⟩;have h1:=hl a ha
 have hres:results fn a.tmps=(do let vs ← fn.results.mapM (rdRes a.tmps);pure (if h:vs.size=1 then vs[0] else .tuple vs)):=by
  unfold results;congr 1
 rw [hres,hr,Bia];simp only [Sem.run_bind,Sem.run_map,h1,Ka];simp
end
structure RelX where
  r:Aa→Aa→Prop
  refl:∀ w,r w w
  trans:∀ {a b c:Aa},r a b→r b c→r a c
@[reducible] def rowR(row:Option Nat):RelX:=⟨fun w w'=>w.grownBy w' row,fun w=>(G.refl w).only row,fun h k=>Jfa h k⟩
abbrev GX(row:RelX)(w w':Aa):Prop:=row.r w w'
theorem GX.refl(row:RelX)(w:Aa):GX row w w:=row.refl w
def EffQ(P:Fa)(Z:List Da→Act→Aa→Prop)(row:RelX)(gr:Bool)(o:Oper)(a:Act)(w:Aa)(next:Act→Aa→Prop):Prop :=
 (∃ v w',(execOp a.eval o).run P w = .ok (.value v) w'∧(gr=true→GX row w w')∧next (a.put o.dst v) w')∨
 (∃ w',(execOp a.eval o).run P w = .ok .skip w'∧(gr=true→GX row w w')∧next (a.put o.dst undef) w')∨
 (∃ f args,(execOp a.eval o).run P w = .ok (.enter f args) w∧Calls P f args w fun e w'=>(∃ v,e = .returned v∧(gr=true→GX row w w')∧next (a.put o.dst v) w')∨(∃ ch,e = .panicked ch∧Z ch a w'))∨
 (∃ l f tmps asg body,(execOp a.eval o).run P w = .ok (.round l f tmps asg body) w∧RoundIn Fence.wide 0 P l f tmps asg body w fun e w'=>∃ v,e = .returned v∧(gr=true→GX row w w')∧next (a.put o.dst v) w')
theorem EffQ.wpIn{P:Fa}{Z:List Da→Act→Aa→Prop}{row:RelX}{gr:Bool}{o:Oper}{a:Act}{w:Aa}{next:Act→Aa→Prop}{Q:Exit→Act→Aa→Prop}{ρ:Option Nat}
 (h:EffQ P Z row gr o a w next) (hZ:∀ ch w',Z ch a w'→Q (.panic ch) a w'):o.wpIn (WF ρ) 0 P a w next Q:=by
 refine Eff.wpIn (Z:=Z) (gr:=false) ?_ hZ;rcases h with ⟨v,w',hr,_,hn⟩|⟨w',hr,_,hn⟩|⟨f,args,hr,hc⟩|⟨l,f,tmps,asg,body,hr,hc⟩;exact .inl ⟨v,w',hr,(fun h=>by cases h),hn⟩;exact .inr (.inl ⟨w',hr,(fun h=>by cases h),hn⟩);refine .inr (.inr (.inl ⟨f,args,hr,Calls.mono hc fun e w' h=>?_⟩));rcases h with ⟨v,e1,_,h1⟩|⟨ch,e1,h1⟩;exact .inl ⟨v,e1,(fun h=>by cases h),h1⟩;exact .inr ⟨ch,e1,h1⟩;refine .inr (.inr (.inr ⟨l,f,tmps,asg,body,hr,RoundIn.mono hc fun e w' h=>?_⟩));obtain ⟨v,e1,_,h1⟩:=h;exact ⟨v,e1,(fun h=>by cases h),h1⟩
theorem EffQ.turn{P:Fa}{Z Z':List Da→Act→Aa→Prop}{row:RelX}{gr:Bool}{o:Oper}{a b:Act}{w:Aa}{next next':Act→Aa→Prop}(he:execOp b.eval o=execOp a.eval o)
 (hz:∀ ch w',Z ch a w'→Z' ch b w')
 (hn:∀ v w',(gr=true→GX row w w')→next (a.put o.dst v) w'→next' (b.put o.dst v) w') (h:EffQ P Z row gr o a w next):EffQ P Z' row gr o b w next':=by
 rcases h with ⟨v,w',hr,hg,h1⟩|⟨w',hr,hg,h1⟩|⟨f,args,hr,hc⟩|⟨l,f,tmps,asg,body,hr,hc⟩;exact .inl ⟨v,w',by rw [he];exact hr,hg,hn _ _ hg h1⟩;exact .inr (.inl ⟨w',by rw [he];exact hr,hg,hn _ _ hg h1⟩);refine .inr (.inr (.inl ⟨f,args,by rw [he];exact hr,Calls.mono hc fun e w' h=>?_⟩));rcases h with ⟨v,e1,hg,h1⟩|⟨ch,e1,h1⟩;exact .inl ⟨v,e1,hg,hn _ _ hg h1⟩;exact .inr ⟨ch,e1,hz _ _ h1⟩;refine .inr (.inr (.inr ⟨l,f,tmps,asg,body,by rw [he];exact hr,RoundIn.mono hc fun e w' h=>?_⟩));obtain ⟨v,e1,hg,h1⟩:=h;exact ⟨v,e1,hg,hn _ _ hg h1⟩
def Avail(wt:Nat→Nat→Bool)(L:List Nat)(j:Nat):Prop:=∀ i∈L,wt j i=false
section
variable (P:Fa) (Z:List Da→Act→Aa→Prop) (ops:Array Oper) (cl:Nat→Nat) (wt:Nat→Nat→Bool) (row:RelX) (K:Act→Aa→Prop)
def RT:Nat→List Nat→Act→Aa→Prop
 | 0,L,a,w=>L=[]∧K a w
 | n+1,L,a,w =>
  (∃ r,r∈L∧Avail wt L r∧(cl r=0∨cl r=3)∧∃ o,ops[r]? = some o∧∃ v,(Ha o (yielded ops a.tmps)=true→∀ w1,cl r=3∨GX row w w1→(execOp a.eval o).run P w1 = .ok (.value v) w1)∧
   (Ha o (yielded ops a.tmps)=false→v=undef)∧RT n (L.erase r) (a.put o.dst v) w)∨
  ((∀ r∈L,Avail wt L r→¬ (cl r=0∨cl r=3))∧∀ j∈L,Avail wt L j→∃ o,ops[j]? = some o∧
   if Ha o (yielded ops a.tmps)=true then EffQ P Z row (cl j == 1) o a w (fun a' w'=>RT n (L.erase j) a' w') else RT n (L.erase j) (a.put o.dst undef) w)
end
section
variable {P:Fa} {Z:List Da→Act→Aa→Prop} {ops:Array Oper} {cl:Nat→Nat} {wt:Nat→Nat→Bool} {row:RelX} {K:Act→Aa→Prop}
structure OkayT (ops:Array Oper) (cl:Nat→Nat) (wt:Nat→Nat→Bool):Prop where
  sel:∀ (j:Nat) (o:Oper) cs b,ops[j]? = some o→o.op≠.select cs b
  way:∀ (j:Nat) (o:Oper) (i:Nat),ops[j]? = some o→wt j i=true→∃ e,e∈o.after∧Ia .any e=true∧(e.on=i∨wt e.on i=true)
  lt:∀ (j:Nat) (o:Oper) (e:Edge),ops[j]? = some o→e∈o.after→Ia .any e=true→e.on<j
  pair:∀ (i j:Nat) (oi oj:Oper),i<j→ops[i]? = some oi→ops[j]? = some oj→wt j i=false→(¬ (cl i=0∨cl i=3)∧¬ (cl j=0∨cl j=3))∨(oi.apart ops oj=true∧(cl i=3∨cl j=3∨(cl i=0∧cl j≤1)∨(cl j=0∧cl i≤1)))
theorem OkayT.both(ok:OkayT ops cl wt){r j:Nat}{or oj:Oper}(hr:ops[r]? = some or)(hj:ops[j]? = some oj)(hne:r≠j)(h1:wt r j=false)(h2:wt j r=false)(hc:cl r=0∨cl r=3) :
 ((∀ d,or.dst=some d→d∉oj.looksAt ops)∧(∀ d,or.dst=some d→oj.dst≠some d)∧(∀ d,oj.dst=some d→d∉or.looksAt ops))∧(cl r=3∨(cl r=0∧(cl j=3∨cl j≤1))):=by
 rcases Nat.lt_or_gt_of_ne hne with hlt|hlt;rcases ok.pair r j or oj hlt hr hj h2 with h|⟨h,hh⟩;exact absurd hc h.1;refine ⟨Oper.apart_spec h,?_⟩;rcases hc with hc|hc;right;refine ⟨hc,?_⟩;omega;exact .inl hc;rcases ok.pair j r oj or hlt hj hr h1 with h|⟨h,hh⟩;exact absurd hc h.2;obtain ⟨p1,p2,p3⟩:=Oper.apart_spec h;refine ⟨⟨p3,fun d hd he=>p2 d he hd,p1⟩,?_⟩;rcases hc with hc|hc;right;refine ⟨hc,?_⟩;omega;exact .inl hc
theorem Avail.erase{L:List Nat}{j r:Nat}(h:Avail wt L j):Avail wt (L.erase r) j:=fun i hi=>h i (Awa hi)
theorem Qte{row:RelX}{a b c:Aa}(h:GX row a b)(k:GX row b c):GX row a c:=row.trans h k
theorem Wze(ok:OkayT ops cl wt){j:Nat}{oj:Oper}(hj:ops[j]? = some oj)(hcj:cl j=0∨cl j=3) :
 ∀ (n:Nat) (L:List Nat) (a:Act) (w:Aa),L.length=n+1→L.Nodup→j∈L→Avail wt L j→RT P Z ops cl wt row K (n+1) L a w→
 ∃ v,(Ha oj (yielded ops a.tmps)=true→∀ w1,cl j=3∨GX row w w1→(execOp a.eval oj).run P w1 = .ok (.value v) w1)∧
 (Ha oj (yielded ops a.tmps)=false→v=undef)∧RT P Z ops cl wt row K n (L.erase j) (a.put oj.dst v) w:=by
 intro n
 induction n with
 | zero =>
  intro L a w hn nd hm hav h;obtain ⟨x,rfl⟩:∃ x,L=[x]:=Cha.1 hn;obtain rfl:j=x:=Ava.1 hm;rcases h with ⟨r,hr,hra,hc,o,ho,v,h1,h2,h3⟩|⟨hno,_⟩;obtain rfl:r=j:=Ava.1 hr;obtain rfl:o=oj:=Option.some.inj (ho.symm.trans hj);exact ⟨v,h1,h2,h3⟩;exact absurd hcj (hno j hm hav)
 | succ n ih =>
  intro L a w hn nd hm hav h;rcases h with ⟨r,hr,hra,hc,o,ho,u,h1,h2,h3⟩|⟨hno,_⟩;by_cases hrj:r=j;subst hrj;obtain rfl:o=oj:=Option.some.inj (ho.symm.trans hj);exact ⟨u,h1,h2,h3⟩;obtain ⟨⟨p1,p2,p3⟩,_⟩:=ok.both ho hj hrj (hra j hm) (hav r hr) hc;have evj:∀ v,execOp (a.put o.dst v).eval oj=execOp a.eval oj:=fun v=>execOp_put (ops:=ops) oj (fun cs b=>ok.sel j oj cs b hj) a o.dst v p1;have waj:∀ v,Ha oj (yielded ops (a.put o.dst v).tmps)=Ha oj (yielded ops a.tmps):=fun v=>wanted_put oj a o.dst v p1;have evi:∀ v,execOp (a.put oj.dst v).eval o=execOp a.eval o:=fun v=>execOp_put (ops:=ops) o (fun cs b=>ok.sel r o cs b ho) a oj.dst v p3;have wai:∀ v,Ha o (yielded ops (a.put oj.dst v).tmps)=Ha o (yielded ops a.tmps):=fun v=>wanted_put o a oj.dst v p3;have hmj:j∈L.erase r:=nd.mem_erase_iff.2 ⟨fun h=>hrj h.symm,hm⟩;have hmr:r∈L.erase j:=nd.mem_erase_iff.2 ⟨hrj,hr⟩;obtain ⟨v,k1,k2,k3⟩:=ih (L.erase r) _ w (by rw [Bca hr];omega) (nd.erase r) hmj hav.erase h3;rw [waj] at k1 k2;rw [evj] at k1;refine ⟨v,k1,k2,.inl ⟨r,hmr,hra.erase,hc,o,ho,u,?_,?_,?_⟩⟩;rw [wai,evi];exact h1;rw [wai];exact h2;rw [List.erase_comm,← Act.put_comm a u v p2];exact k3;exact absurd hcj (hno j hm hav)
theorem Qkd(hZs:∀ ch (a:Act) d v w,(∃ (i:Nat) (o:Oper),ops[i]? = some o∧o.dst=d)→Z ch (a.put d v) w→Z ch a w)(ok:OkayT ops cl wt){j:Nat}{oj:Oper}(hj:ops[j]? = some oj)(hcj:¬ (cl j=0∨cl j=3)) :
 ∀ (n:Nat) (L:List Nat) (a:Act) (w:Aa),L.length=n+1→L.Nodup→j∈L→Avail wt L j→RT P Z ops cl wt row K (n+1) L a w→
 if Ha oj (yielded ops a.tmps)=true then EffQ P Z row (cl j == 1) oj a w (fun a' w'=>RT P Z ops cl wt row K n (L.erase j) a' w')
 else RT P Z ops cl wt row K n (L.erase j) (a.put oj.dst undef) w:=by
 intro n
 induction n with
 | zero =>
  intro L a w hn nd hm hav h;obtain ⟨x,rfl⟩:∃ x,L=[x]:=Cha.1 hn;obtain rfl:j=x:=Ava.1 hm;rcases h with ⟨r,hr,hra,hc,_⟩|⟨_,hall⟩;obtain rfl:r=j:=Ava.1 hr;exact absurd hc hcj;obtain ⟨o,ho,hb⟩:=hall j hm hav;obtain rfl:o=oj:=Option.some.inj (ho.symm.trans hj);exact hb
 | succ n ih =>
  intro L a w hn nd hm hav h;rcases h with ⟨r,hr,hra,hc,o,ho,u,h1,h2,h3⟩|⟨_,hall⟩;have hrj:r≠j:=fun e=>hcj (e▸hc);obtain ⟨⟨p1,p2,p3⟩,hq⟩:=ok.both ho hj hrj (hra j hm) (hav r hr) hc;have evj:∀ v,execOp (a.put o.dst v).eval oj=execOp a.eval oj:=fun v=>execOp_put (ops:=ops) oj (fun cs b=>ok.sel j oj cs b hj) a o.dst v p1;have waj:∀ v,Ha oj (yielded ops (a.put o.dst v).tmps)=Ha oj (yielded ops a.tmps):=fun v=>wanted_put oj a o.dst v p1;have evi:∀ v,execOp (a.put oj.dst v).eval o=execOp a.eval o:=fun v=>execOp_put (ops:=ops) o (fun cs b=>ok.sel r o cs b ho) a oj.dst v p3;have wai:∀ v,Ha o (yielded ops (a.put oj.dst v).tmps)=Ha o (yielded ops a.tmps):=fun v=>wanted_put o a oj.dst v p3;have hmj:j∈L.erase r:=nd.mem_erase_iff.2 ⟨fun h=>hrj h.symm,hm⟩;have hmr:r∈L.erase j:=nd.mem_erase_iff.2 ⟨hrj,hr⟩;have k:=ih (L.erase r) _ w (by rw [Bca hr];omega) (nd.erase r) hmj hav.erase h3;rw [waj] at k
  have back:∀ x w',(cl j=1→GX row w w')→RT P Z ops cl wt row K n ((L.erase r).erase j) ((a.put o.dst u).put oj.dst x) w'→RT P Z ops cl wt row K (n+1) (L.erase j) (a.put oj.dst x) w':=by
   intro x w' hg hk;refine .inl ⟨r,hmr,hra.erase,hc,o,ho,u,?_,?_,?_⟩;rw [wai,evi];intro hw w1 hg1;refine h1 hw w1 ?_;rcases hg1 with hg1|hg1;exact .inl hg1;rcases hq with hq|⟨_,hq⟩;exact .inl hq;refine .inr (Qte (hg ?_) hg1);have:¬ cl j=0:=fun e=>hcj (.inl e);have:¬ cl j=3:=fun e=>hcj (.inr e);omega;rw [wai];exact h2;rw [List.erase_comm,← Act.put_comm a u x p2];exact hk
  by_cases hwj:Ha oj (yielded ops a.tmps)=true;rw [if_pos hwj] at k ⊢;exact k.turn (evj u).symm (fun ch w' h=>hZs _ _ _ _ _ ⟨_,_,ho,rfl⟩ h) fun x w' hg hk=>back x w' (fun h=>hg (by simp [h])) hk;rw [if_neg hwj] at k ⊢;exact back _ _ (fun _=>GX.refl _ _) k;obtain ⟨o,ho,hb⟩:=hall j hm hav;obtain rfl:o=oj:=Option.some.inj (ho.symm.trans hj);exact hb
theorem Left.waitsT(ok:OkayT ops cl wt){L:List Nat}{listed:Array Bool}(hL:Left ops L listed) :
 ∀ (n j:Nat) (oj:Oper),j≤n→ops[j]? = some oj→(∀ e∈oj.after,Ia .any e=true→e.on∉L)→∀ i∈L,wt j i=false:=by
 intro n
 induction n with
 | zero =>
  intro j oj hjn hj _ i _
  cases hw:wt j i with
  | false=>rfl
  | true =>
   obtain ⟨e,he,hb,_⟩:=ok.way j oj i hj hw;have:=ok.lt j oj e hj he hb;omega
 | succ n ih =>
  intro j oj hjn hj hall i hi
  cases hw:wt j i with
  | false=>rfl
  | true =>
   obtain ⟨e,he,hb,hh⟩:=ok.way j oj i hj hw;have hlt:=ok.lt j oj e hj he hb;have hnot:=hall e he hb;rcases hh with rfl|hh;exact absurd hi hnot;have hes:e.on<ops.size:=by have:=(Ana.1 hj).1;omega
   have hoe:ops[e.on]? = some ops[e.on]:=Aqa hes;have:=ih e.on _ O hoe (hL.closed e.on _ hoe hnot) i hi;rw [this] at hh;cases hh
theorem Vae{ρ:Option Nat}(hZs:∀ ch (a:Act) d v w,(∃ (i:Nat) (o:Oper),ops[i]? = some o∧o.dst=d)→Z ch (a.put d v) w→Z ch a w)(ok:OkayT ops cl wt){Q:Exit→Act→Aa→Prop}(hQ:∀ a w,K a w→Q .normal a w)(hZ:∀ ch a w,Z ch a w→Q (.panic ch) a w) :
 ∀ (n:Nat) (L:List Nat) (listed:Array Bool) (a:Act) (w:Aa),L.length=n→Left ops L listed→RT P Z ops cl wt row K n L a w→wpAnyIn (WF ρ) 0 P .any ops Q n listed a w:=by
 intro n
 induction n with
 | zero =>
  intro L listed a w hn hL h;obtain rfl:L=[]:=Caa hn;refine ⟨?_,hQ _ _ h.2⟩;refine Cba.2 fun j hj=>?_;obtain ⟨h0,o,ho,_⟩:=mem_ready.1 hj;have:=(hL.mem j).2 ⟨(Ana.1 ho).1,h0⟩;cases this
 | succ n ih =>
  intro L listed a w hn hL h;have nd:L.Nodup:=hL.sorted.imp (fun h=>Bna h)
  have inL:∀ j,j∈Region.ready .any ops listed→∃ oj,ops[j]? = some oj∧j∈L∧∀ e∈oj.after,Ia .any e=true→e.on∉L:=by
   intro j hj;obtain ⟨h0,oj,ho,hall⟩:=mem_ready.1 hj;have hjs:=(Ana.1 ho).1;refine ⟨oj,ho,(hL.mem j).2 ⟨hjs,h0⟩,fun e he hb hm=>?_⟩;have h1:=hall e he hb;obtain ⟨h2,h3⟩:=(hL.mem e.on).1 hm;have h4:e.on<listed.size:=by rw [hL.size];exact h2
   simp [h4] at h1 h3;rw [h1] at h3;cases h3
  refine ⟨fun h0=>?_,fun j hj=>?_⟩;exfalso
  match L,hn,hL with
  | i::rest,_,hL =>
   have him:=(hL.mem i).1 Aga;have hoi:ops[i]? = some ops[i]:=Aqa him.1
   have:i∈Region.ready .any ops listed:=by
    refine mem_ready.2 ⟨him.2,_,hoi,fun e he hb=>?_⟩;have hlt:=ok.lt i _ e hoi he hb
    have hno:e.on∉i::rest:=by
     intro hm;rcases Ata.1 hm with hm|hm;omega;have:=(Aoa.1 hL.sorted).1 _ hm;omega
    have hes:e.on<listed.size:=by rw [hL.size];omega
    cases hl:listed.getD e.on true with
    | false=>exact absurd ((hL.mem e.on).2 ⟨by rw [← hL.size];exact hes,hl⟩) hno
    | true=>simpa [hes] using hl
   rw [h0] at this;cases this
  obtain ⟨oj,hoj,hjL,hall⟩:=inL j hj;have hws:∀ i∈L,wt j i=false:=hL.waitsT ok j j oj (Ala _) hoj hall;have hL':=hL.step hoj hall;have hlen:(L.erase j).length=n:=by rw [Bca hjL];omega
  unfold wpOpIn;simp only [hoj];by_cases hc:cl j=0∨cl j=3;obtain ⟨v,h1,h2,h3⟩:=Wze ok hoj hc n L a w hn nd hjL hws h;have hnext:=ih (L.erase j) _ (a.put oj.dst v) w hlen hL' h3;by_cases hwj:Ha oj (yielded ops a.tmps)=true;rw [if_pos hwj];have hr:=h1 hwj w (.inr (GX.refl _ _));refine ⟨fun _ _=>trivial,?_⟩;rw [Usa hr (fun d h=>by cases h),hr];exact hnext;rw [if_neg hwj];have:=h2 (by simpa using hwj);subst this;exact ⟨fun _ _=>trivial,hnext⟩;have h1:=Qkd hZs ok hoj hc n L a w hn nd hjL hws h;by_cases hwj:Ha oj (yielded ops a.tmps)=true;rw [if_pos hwj] at h1 ⊢;refine EffQ.wpIn (Z:=Z) (gr:=cl j == 1) (row:=row) ?_ (fun ch w' h=>hZ _ _ _ h);exact h1.turn rfl (fun _ _ h=>h) fun v w' _ hk=>ih (L.erase j) _ _ w' hlen hL' hk;rw [if_neg hwj] at h1 ⊢;exact ⟨fun _ _=>trivial,ih (L.erase j) _ _ w hlen hL' h1⟩
theorem Uob{ρ:Option Nat}(hZs:∀ ch (a:Act) d v w,(∃ (i:Nat) (o:Oper),ops[i]? = some o∧o.dst=d)→Z ch (a.put d v) w→Z ch a w)(ok:OkayT ops cl wt){id:Nat}{Q:Exit→Act→Aa→Prop}(hZ:∀ ch a w,Z ch a w→Q (.panic ch) a w){a:Act}{w:Aa}(hm:P.follows .mixedOrders=true)
 (h:RT P Z ops cl wt row (fun a w=>Q .normal a w) ops.size (Aea ops.size) a w.drew):(Code.region id ops true).wpIn (WF ρ) 0 P Q a w:=by
 refine wpIn_region_any hm ?_;have:=Vae (Q:=Q) (ρ:=ρ) hZs ok (fun _ _ h=>h) hZ ops.size (Aea ops.size) (Axa ops.size false) a w.drew Os (Wec ops) h;simpa using this
end
/-! a look at the region's text -/
def Wmc(ops:Array Oper)(cl:List Nat)(ms:List Nat)(E:List (Nat×Oper×Nat))(k:Nat)(o:Oper):Bool :=
 Yae o&&o.after.toList.all (fun e=>!Ia .any e || Aba e.on k)&&Aaa (ms.getD k 0) (maskOf ms o.after.toList) &&
 E.all (fun p=>(ms.getD k 0).testBit p.1 || (!(Aaa p.2.2 0 || Aaa p.2.2 3) && !(Aaa (clOf cl k) 0 || Aaa (clOf cl k) 3)) || (p.2.1.apart ops o&&(Aaa p.2.2 3 || Aaa (clOf cl k) 3 || (Aaa p.2.2 0&&Aja (clOf cl k) 1) || (Aaa (clOf cl k) 0&&Aja p.2.2 1))))
def lookFromT(ops:Array Oper)(cl:List Nat)(ms:List Nat):List (Nat×Oper×Nat)→Nat→List Oper→Bool
 | _,_,[]=>true
 | E,k,o::rest=>Wmc ops cl ms E k o&&lookFromT ops cl ms ((k,o,clOf cl k)::E) (k+1) rest
def okT(l:List Oper)(cl:List Nat)(ms:List Nat):Bool:=lookFromT l.toArray cl ms [] 0 l&&Aja ms.length l.length
theorem Xcb(ops:Array Oper)(cl:List Nat)(ms:List Nat):∀ (l:List Oper) (E:List (Nat×Oper×Nat)) (k:Nat),
  (∀ j,l[j]? = ops[k+j]?)→(∀ i,i<k→∃ oi,ops[i]? = some oi∧(i,oi,clOf cl i)∈E)→lookFromT ops cl ms E k l=true→
  ∀ j oj,k≤j→ops[j]? = some oj→∃ E',(∀ i,i<j→∃ oi,ops[i]? = some oi∧(i,oi,clOf cl i)∈E')∧Wmc ops cl ms E' j oj=true
 | [],_,k,hl,_,_=>by
  intro j oj hkj hj;have:=hl (j-k);rw [show k+(j-k)=j by omega,hj] at this;simp at this
 | o::rest,E,k,hl,hE,h=>by
  intro j oj hkj hj;unfold lookFromT at h;rw [Aca] at h;have h0:ops[k]? = some o:=by simpa using (hl 0).symm
  by_cases hjk:j=k;subst hjk;obtain rfl:o=oj:=Option.some.inj (h0.symm.trans hj);exact ⟨E,hE,h.1⟩;refine Xcb ops cl ms rest ((k,o,clOf cl k)::E) (k+1) (fun j=>by have:=hl (j+1);simpa [Bpa,Nat.add_comm 1 j] using this) ?_ h.2 j oj O hj;intro i hi;by_cases hik:i=k;subst hik;exact ⟨o,h0,Aga⟩;obtain ⟨oi,h1,h2⟩:=hE i O;exact ⟨oi,h1,Ama _ h2⟩
theorem Wnc{l:List Oper}{cl:List Nat}{ms:List Nat}(h:okT l cl ms=true):OkayT l.toArray (clOf cl) (wtOf ms):=by
 unfold okT at h;rw [Aca] at h;obtain ⟨h,hml⟩:=h;have S:=Xcb l.toArray cl ms l [] 0 Os (fun i hi=>absurd hi O) h;have at_:∀ j oj,l.toArray[j]? = some oj→∃ E',(∀ i,i<j→∃ oi,l.toArray[i]? = some oi∧(i,oi,clOf cl i)∈E')∧Wmc l.toArray cl ms E' j oj=true:=fun j oj hj=>S j oj (Nat.zero_le _) hj;refine ⟨?_,?_,?_,?_⟩;intro j o cs b hj heq;obtain ⟨E',_,hh⟩:=at_ j o hj;simp [Wmc,Yae,heq] at hh;intro j o i hj hw;obtain ⟨E',_,hh⟩:=at_ j o hj;simp only [Wmc,Aca] at hh;have hm:=Ada hh.1.2;unfold wtOf at hw;rw [hm] at hw;obtain ⟨e,h1,h2⟩:=Wob ms i _ hw;exact ⟨e,Bea.1 h1,h2⟩;intro j o e hj he hb;obtain ⟨E',_,hh⟩:=at_ j o hj;simp only [Wmc,Aca,Aia,Bea,Apa,Bool.not_eq_true'] at hh;rcases hh.1.1.2 e he with h1|h1;rw [hb] at h1;cases h1;exact Aha h1;intro i j oi oj hij hi hj hw;obtain ⟨E',hE,hh⟩:=at_ j oj hj;simp only [Wmc,Aca,Aia] at hh;obtain ⟨oi',h1,h2⟩:=hE i hij;obtain rfl:oi'=oi:=Option.some.inj (h1.symm.trans hi);have h3:=hh.2 _ h2;unfold wtOf at hw;dsimp only at h3;rw [hw] at h3;have e:∀ (a b:Nat),Aaa a b=true↔a=b:=fun a b=>⟨Ada,fun h=>by subst h;exact Bfa a⟩;have e':∀ (a b:Nat),Aja a b=true↔a≤b:=fun a b=>⟨Aha,Cfa⟩;simp only [Bra,Apa,Aca,Bool.not_eq_true',← Bool.not_eq_true,e,e'] at h3;rcases h3 with h3|⟨ha,h3⟩;exact .inl ⟨h3.1,h3.2⟩;refine .inr ⟨ha,?_⟩;rcases h3 with ((h3|h3)|h3)|h3;exact .inl h3;exact .inr (.inl h3);exact .inr (.inr (.inl h3));exact .inr (.inr (.inr h3))
/-! the steps -/
def isRdB(cl:List Nat)(j:Nat):Bool:=Aaa (clOf cl j) 0 || Aaa (clOf cl j) 3
def availB(ms:List Nat)(L:List Nat)(j:Nat):Bool:=L.all fun i=>!(wtOf ms j i)
def candB(cl ms L:List Nat):List Nat:=L.filter fun j=>availB ms L j
theorem Yaa(ms:List Nat)(L:List Nat)(j:Nat):availB ms L j=true↔Avail (wtOf ms) L j:=by
 unfold availB Avail;simp [Aia]
theorem Zic(cl:List Nat)(j:Nat):isRdB cl j=true↔(clOf cl j=0∨clOf cl j=3):=by
 unfold isRdB;rw [Apa];exact ⟨fun h=>h.imp Ada Ada,fun h=>h.imp (fun e=>by rw [e];rfl) (fun e=>by rw [e];rfl)⟩
structure ST (P:Fa) (Z:List Da→Act→Aa→Prop) (ops:List Oper) (cl ms:List Nat) (row:RelX) (n:Nat) (K:Act→Aa→Prop) (m:Nat) (L:List Nat) (σ:List Ent) (w:Aa):Prop where mk ::
  h:∀ a,Kn n σ a→RT P Z ops.toArray (clOf cl) (wtOf ms) row K m L a w
section
variable {P:Fa} {Z:List Da→Act→Aa→Prop} {ops:List Oper} {cl ms:List Nat} {row:RelX} {n:Nat} {K:Act→Aa→Prop} {m:Nat} {L L':List Nat} {σ:List Ent} {w:Aa} {d:Nat} {op:Op} {ty:Ba} {pos:String} {after:Array Edge} {v:Ga}
instance:CoeFun (ST P Z ops cl ms row n K m L σ w) fun _=>∀ a,Kn n σ a→RT P Z ops.toArray (clOf cl) (wtOf ms) row K m L a w:=⟨ST.h⟩
theorem Jg(h:∀ a,Kn n σ a→K a w):ST P Z ops cl ms row n K 0 [] σ w:=.mk fun a ha=>⟨rfl,h a ha⟩
theorem Wra(τ:List Ent)(hs:Sub τ σ)(h:ST P Z ops cl ms row n K m L τ w):ST P Z ops cl ms row n K m L σ w:=.mk fun a ha=>h a (ha.sub hs)
theorem Qnb(r:Nat)(hr:ops.toArray[r]? = some ⟨some d,op,ty,pos,after,none⟩)(hb:(L.contains r&&availB ms L r&&Aaa (clOf cl r) 0&&Aba d n)=true)(hL:L.erase r=L')
 (hv:∀ w1,GX row w w1→Rd P n σ True w1 op ty v) (h:ST P Z ops cl ms row n K m L' ((d,True,v) :: σ) w):ST P Z ops cl ms row n K (m+1) L σ w:=.mk fun a ha=>by
 simp only [Aca] at hb;obtain ⟨⟨⟨h1,h2⟩,h3⟩,h4⟩:=hb;refine .inl ⟨r,by simpa using h1,(Yaa ms L r).1 h2,.inl (Ada h3),_,hr,v,fun _ w1 hg=>?_,(fun hn=>by cases hn),hL▸h _ (ha.put h4 (fun _=>J) (fun hn=>absurd trivial hn))⟩;rcases hg with hg|hg;rw [Ada h3] at hg;cases hg;exact hv w1 hg _ _ _ _ a ha trivial w1 (G.refl _)
theorem Vla(r:Nat)(hr:ops.toArray[r]? = some ⟨some d,op,ty,pos,after,none⟩)(hb:(L.contains r&&availB ms L r&&Aaa (clOf cl r) 3&&Aba d n)=true)(hL:L.erase r=L')
 (hv:∀ wb,Rd P n σ True wb op ty v) (h:ST P Z ops cl ms row n K m L' ((d,True,v) :: σ) w):ST P Z ops cl ms row n K (m+1) L σ w:=.mk fun a ha=>by
 simp only [Aca] at hb;obtain ⟨⟨⟨h1,h2⟩,h3⟩,h4⟩:=hb;exact .inl ⟨r,by simpa using h1,(Yaa ms L r).1 h2,.inr (Ada h3),_,hr,v,fun _ w1 hg=>hv w1 _ _ _ _ a ha trivial w1 (G.refl _),(fun hn=>by cases hn),hL▸h _ (ha.put h4 (fun _=>rfl) (fun hn=>absurd trivial hn))⟩
open Classical in
theorem Wsa{g t:Nat}{want b:Bool}{c0:Prop}(r:Nat)(hr:ops.toArray[r]? = some ⟨some d,op,ty,pos,after,some (g,want)⟩)(hb:(L.contains r&&availB ms L r&&Aaa (clOf cl r) 0&&Aba d n)=true)(hL:L.erase r=L')
 (hgd:((ops.toArray[g]?).bind (·.dst))=some t) (hlk:look σ t=some (c0,.bool b))
 (hv:∀ w1,GX row w w1→Rd P n σ (c0∧b=want) w1 op ty v) (h:ST P Z ops cl ms row n K m L' ((d,c0∧b=want,v) :: σ) w):ST P Z ops cl ms row n K (m+1) L σ w:=.mk fun a ha=>by
 simp only [Aca] at hb;obtain ⟨⟨⟨h1,h2⟩,h3⟩,h4⟩:=hb;have hw:=Qta (op:=op) (ty:=ty) (pos:=pos) (after:=after) (want:=want) (d:=some d) hgd hlk ha;refine .inl ⟨r,by simpa using h1,(Yaa ms L r).1 h2,.inl (Ada h3),_,hr,if c0∧b=want then v else undef,fun hwt w1 hg=>?_,fun hn=>?_,hL▸h _ (ha.put h4 (fun hh=>if_pos hh) (fun hh=>if_neg hh))⟩;rcases hg with hg|hg;rw [Ada h3] at hg;cases hg;rw [if_pos (hw.1 hwt)];exact hv w1 hg _ _ _ _ a ha (hw.1 hwt) w1 (G.refl _);rw [if_neg (fun hh=>by rw [hw.2 hh] at hn;cases hn)]
open Classical in
theorem Yga{g t:Nat}{want b:Bool}{c0:Prop}(r:Nat)(hr:ops.toArray[r]? = some ⟨some d,op,ty,pos,after,some (g,want)⟩)(hb:(L.contains r&&availB ms L r&&Aaa (clOf cl r) 3&&Aba d n)=true)(hL:L.erase r=L')
 (hgd:((ops.toArray[g]?).bind (·.dst))=some t) (hlk:look σ t=some (c0,.bool b))
 (hv:∀ wb,Rd P n σ (c0∧b=want) wb op ty v) (h:ST P Z ops cl ms row n K m L' ((d,c0∧b=want,v) :: σ) w):ST P Z ops cl ms row n K (m+1) L σ w:=.mk fun a ha=>by
 simp only [Aca] at hb;obtain ⟨⟨⟨h1,h2⟩,h3⟩,h4⟩:=hb;have hw:=Qta (op:=op) (ty:=ty) (pos:=pos) (after:=after) (want:=want) (d:=some d) hgd hlk ha;refine .inl ⟨r,by simpa using h1,(Yaa ms L r).1 h2,.inr (Ada h3),_,hr,if c0∧b=want then v else undef,fun hwt w1 hg=>?_,fun hn=>?_,hL▸h _ (ha.put h4 (fun hh=>if_pos hh) (fun hh=>if_neg hh))⟩;rw [if_pos (hw.1 hwt)];exact hv w1 _ _ _ _ a ha (hw.1 hwt) w1 (G.refl _);rw [if_neg (fun hh=>by rw [hw.2 hh] at hn;cases hn)]
def STE(P:Fa)(Z:List Da→Act→Aa→Prop)(ops:List Oper)(cl ms:List Nat)(row:RelX)(n:Nat)(K:Act→Aa→Prop)(m:Nat)(L:List Nat)(σ:List Ent)(w:Aa)(j:Nat):Prop :=
 ∀ a,Kn n σ a→∃ o,ops.toArray[j]? = some o∧if Ha o (yielded ops.toArray a.tmps)=true then EffQ P Z row (clOf cl j == 1) o a w (fun a' w'=>RT P Z ops.toArray (clOf cl) (wtOf ms) row K m (L.erase j) a' w')
  else RT P Z ops.toArray (clOf cl) (wtOf ms) row K m (L.erase j) (a.put o.dst undef) w
theorem Que(cs:List Nat)(hb:L.all (fun r=>!(availB ms L r&&isRdB cl r))=true)(hc:candB cl ms L=cs)(h:∀ j∈cs,STE P Z ops cl ms row n K m L σ w j):ST P Z ops cl ms row n K (m+1) L σ w:=.mk fun a ha=>by
 refine .inr ⟨fun r hr hav hrd=>?_,fun j hj hav=>?_⟩;have:=Aia.1 hb r hr;rw [(Yaa ms L r).2 hav,(Zic cl r).2 hrd] at this;cases this;exact h j (by rw [← hc];exact List.mem_filter.2 ⟨hj,(Yaa ms L j).2 hav⟩) a ha
theorem Zt(j:Nat)(hb:L.all (fun r=>!(availB ms L r&&isRdB cl r))=true)(hc:candB cl ms L=[j])(h:STE P Z ops cl ms row n K m L σ w j):ST P Z ops cl ms row n K (m+1) L σ w :=
 Que [j] hb hc fun i hi=>by rw [Ava.1 hi];exact h
theorem Zpb(j k:Nat)(hb:L.all (fun r=>!(availB ms L r&&isRdB cl r))=true)(hc:candB cl ms L=[j,k])(h:STE P Z ops cl ms row n K m L σ w j)(h':STE P Z ops cl ms row n K m L σ w k):ST P Z ops cl ms row n K (m+1) L σ w :=
 Que [j,k] hb hc fun i hi=>by
 rcases Ata.1 hi with rfl|hi;exact h;rw [Ava.1 hi];exact h'
theorem Zn{j:Nat}{o:Oper}(cl2:List Nat)(ho:ops.toArray[j]? = some o)(hL:L.erase j=L')(hc:(Aaa (clOf cl2 j) 0 || Aaa (clOf cl2 j) 3)=false)
 (h:SR P Z ops cl2 [] w n (fun a' w'=>GX row w w'∧RT P Z ops.toArray (clOf cl) (wtOf ms) row K m L' a' w') j [o] σ w):STE P Z ops cl ms row n K m L σ w j:=fun a ha=>by
 subst hL
 have h1:=h (fun i o' h=>by cases i with
  | zero=>injection h with h;subst h;exact ho
  | succ i=>cases h) a ha
 have hc':¬ (clOf cl2 j=0∨clOf cl2 j=3):=by
  intro e;rw [Cia] at hc;rcases e with e|e <;> rw [e] at hc <;> simp at hc
 obtain ⟨o',ho',h2⟩:=h1;obtain rfl:o'=o:=Option.some.inj (ho'.symm.trans ho);rw [if_neg hc'] at h2;refine ⟨o',ho,?_⟩;by_cases hw:Ha o' (yielded ops.toArray a.tmps)=true;rw [if_pos hw] at h2 ⊢;rcases h2 with ⟨v,w',hr,_,hn⟩|⟨w',hr,_,hn⟩|⟨f,args,hr,hcl⟩|⟨l,f,tmps,asg,body,hr,hcl⟩;exact .inl ⟨v,w',hr,fun _=>hn.1,hn.2⟩;exact .inr (.inl ⟨w',hr,fun _=>hn.1,hn.2⟩);refine .inr (.inr (.inl ⟨f,args,hr,Calls.mono hcl fun e w' h=>?_⟩));rcases h with ⟨v,he,_,hn⟩|h;exact .inl ⟨v,he,fun _=>hn.1,hn.2⟩;exact .inr h;exact .inr (.inr (.inr ⟨l,f,tmps,asg,body,hr,RoundIn.mono hcl fun e w' ⟨v,he,_,hn⟩=>⟨v,he,fun _=>hn.1,hn.2⟩⟩));rw [if_neg hw] at h2 ⊢;exact h2.2
theorem Xb{j:Nat}{o:Oper}(cl2:List Nat)(ho:ops.toArray[j]? = some o)(hL:L.erase j=L')(hc:(Aaa (clOf cl2 j) 0 || Aaa (clOf cl2 j) 3)=false)(h1c:Aaa (clOf cl j) 1=false)
 (h:SR P Z ops cl2 [] w n (fun a' w'=>RT P Z ops.toArray (clOf cl) (wtOf ms) row K m L' a' w') j [o] σ w):STE P Z ops cl ms row n K m L σ w j:=fun a ha=>by
 subst hL
 have h1:=h (fun i o' h=>by cases i with
  | zero=>injection h with h;subst h;exact ho
  | succ i=>cases h) a ha
 have hc':¬ (clOf cl2 j=0∨clOf cl2 j=3):=by
  intro e;rw [Cia] at hc;rcases e with e|e <;> rw [e] at hc <;> simp at hc
 have h1c':(clOf cl j == 1)=false:=by
  cases h:(clOf cl j == 1) with
  | false=>rfl
  | true=>rw [eq_of_beq h] at h1c;cases h1c
 obtain ⟨o',ho',h2⟩:=h1;obtain rfl:o'=o:=Option.some.inj (ho'.symm.trans ho);rw [if_neg hc'] at h2;refine ⟨o',ho,?_⟩;rw [h1c'];by_cases hw:Ha o' (yielded ops.toArray a.tmps)=true;rw [if_pos hw] at h2 ⊢;rcases h2 with ⟨v,w',hr,_,hn⟩|⟨w',hr,_,hn⟩|⟨f,args,hr,hcl⟩|⟨l,f,tmps,asg,body,hr,hcl⟩;exact .inl ⟨v,w',hr,(fun h=>by cases h),hn⟩;exact .inr (.inl ⟨w',hr,(fun h=>by cases h),hn⟩);refine .inr (.inr (.inl ⟨f,args,hr,Calls.mono hcl fun e w' h=>?_⟩));rcases h with ⟨v,he,_,hn⟩|h;exact .inl ⟨v,he,(fun h=>by cases h),hn⟩;exact .inr h;exact .inr (.inr (.inr ⟨l,f,tmps,asg,body,hr,RoundIn.mono hcl fun e w' ⟨v,he,_,hn⟩=>⟨v,he,(fun h=>by cases h),hn⟩⟩));rw [if_neg hw] at h2 ⊢;exact h2
theorem Xx{cl2:List Nat}{W0:Aa}{k:Nat}(h:ST P Z ops cl ms row n K m L σ w):SR P Z ops cl2 [] W0 n (fun a' w'=>RT P Z ops.toArray (clOf cl) (wtOf ms) row K m L a' w') k [] σ w:=Ze h
theorem Zy{cl2:List Nat}{W0 w0:Aa}{k:Nat}(hg:GX row w0 w)(h:ST P Z ops cl ms row n K m L σ w):SR P Z ops cl2 [] W0 n (fun a' w'=>GX row w0 w'∧RT P Z ops.toArray (clOf cl) (wtOf ms) row K m L a' w') k [] σ w:=Ze fun a ha=>⟨hg,h a ha⟩
end
section
variable {P:Fa} {B:List Da→Aa→Prop} {n:Nat} {N T:Act→Aa→Prop} {X:List (Nat×(Act→Aa→Prop))} {σ:List Ent} {w:Aa}
theorem Xh{id:Nat}{l:List Oper}(row:RelX)(cl:List Nat)(ms:List Nat)(hm:P.follows .mixedOrders=true)(hok:okT l cl ms=true)(L:List Nat)(hL:Aea l.length=L)
 (h:ST P (ZA B) l cl ms row n N l.length L σ w.drew):SZ P B n (.region id l.toArray true) N X T σ w:=.mk fun a ha=>by
 have h1:=h a ha;subst hL;have h2:RT P (ZA B) l.toArray (clOf cl) (wtOf ms) row (fun a w=>(Qof N X T B) .normal a w) l.toArray.size (Aea l.toArray.size) a w.drew:=by simpa [Qof] using h1
 exact wpIn_wide.1 (Uob (ρ:=none) (fun _ a d v _ _ h=>⟨by cases d <;> exact h.1,h.2⟩) (Wnc hok) (fun _ _ _ h=>h) hm h2)
end
section
variable {P:Fa} {n:Nat} {σ:List Ent} {c:Prop} {wb:Aa} {ty:Ba} {v:Ga}
end
section
variable {P:Fa} {Z:List Da→Act→Aa→Prop} {ops:List Oper} {cl:List Nat} {lv:List Bool} {W0:Aa} {n:Nat} {K:Act→Aa→Prop} {k:Nat} {rest:List Oper} {σ:List Ent} {w:Aa} {d:Nat} {ty:Ba} {pos:String} {after:Array Edge}
end
def opv(σ:List Ent):Ea→Option (Prop×Ga)
 | .tmp t=>look σ t
 | .const v=>some (True,v)
 | .global g=>some (True,.pointer (some ⟨g,0,none⟩))
 | .func f=>some (True,.func (.func f) #[] #[])
section
variable {n:Nat} {σ:List Ent} {c:Prop} {v:Ga}
theorem Jp{x:Ea}(h:opv σ x=some (True,v)):Ev n σ c x v:=by
 cases x with
 | tmp t=>exact Zd h
 | const u=>injection h with h;injection h with _ h;subst h;exact Xa
 | global g=>injection h with h;injection h with _ h;subst h;exact Jea
 | func f=>injection h with h;injection h with _ h;subst h;exact Xy
theorem aq0:Yta n σ c [] []:=Yl
theorem aqc{x:Ea}{u:Ga}{xs:List Ea}{vs:List Ga}(h:opv σ x=some (True,u))(k:Yta n σ c xs vs):Yta n σ c (x::xs) (u::vs):=Ya (Jp h) k
theorem pq0:Xda n σ c #[] []:=Vj
theorem pqc{i:Nat}{x:Ea}{u:Ga}{ps:List (Nat×Ea)}{vs:List (Nat×Ga)}(h:opv σ x=some (True,u))(k:Xda n σ c ps.toArray vs):Xda n σ c ((i,x)::ps).toArray ((i,u)::vs):=Wi (Jp h) k
end
section
variable {P:Fa} {Z:List Da→Act→Aa→Prop} {ops:List Oper} {cl:List Nat} {lv:List Bool} {W0:Aa} {n:Nat} {K:Act→Aa→Prop} {k:Nat} {rest:List Oper} {σ:List Ent} {w:Aa} {d:Nat} {op:Op} {ty:Ba} {pos:String} {after:Array Edge} {v:Ga} {x y:Ea}
section
theorem Zv(hx:opv σ x=some (True,v))(h:SR P Z ops cl lv W0 n K (k+1) rest ((d,True,v) :: σ) w)(hb:(Aaa (clOf cl k) 3&&Aba d n)=true:=by exact rfl):SR P Z ops cl lv W0 n K k (⟨some d,.move x,ty,pos,after,none⟩::rest) σ w:=Zz hb (fun _=>Zw (Jp hx)) h
theorem Yr(hx:opv σ x=some (True,v))(h:SR P Z ops cl lv W0 n K (k+1) rest ((d,True,v) :: σ) w)(hb:(Aaa (clOf cl k) 3&&Aba d n)=true:=by exact rfl):SR P Z ops cl lv W0 n K k (⟨some d,.assign x,ty,pos,after,none⟩::rest) σ w:=Zz hb (fun _=>Jc (Jp hx)) h
theorem Vy{a:Addr}(hx:opv σ x=some (True,.pointer (some a)))(h:SR P Z ops cl lv W0 n K (k+1) rest ((d,True,.pointer (some a)) :: σ) w)(hb:(Aaa (clOf cl k) 3&&Aba d n)=true:=by exact rfl):SR P Z ops cl lv W0 n K k (⟨some d,.nilCheck x,ty,pos,after,none⟩::rest) σ w:=Zz hb (fun _=>Zna (Jp hx)) h
theorem Xg{s j off b o:Nat}(hf:Yp P s j=some off)(hx:opv σ x=some (True,.pointer (some ⟨b,o,none⟩)))(h:SR P Z ops cl lv W0 n K (k+1) rest ((d,True,.pointer (some ⟨b,o+off,none⟩)) :: σ) w)(hb:(Aaa (clOf cl k) 3&&Aba d n)=true:=by exact rfl):SR P Z ops cl lv W0 n K k (⟨some d,.fieldAddr s x j,ty,pos,after,none⟩::rest) σ w:=Zz hb (fun _=>Zi hf (Jp hx)) h
theorem Vbe{t:Ba}{i:Bool}(hx:opv σ x=some (True,.bool i))(h:SR P Z ops cl lv W0 n K (k+1) rest ((d,True,.bool (!i)) :: σ) w)(hb:(Aaa (clOf cl k) 3&&Aba d n)=true:=by exact rfl):SR P Z ops cl lv W0 n K k (⟨some d,.unOp .not t x,ty,pos,after,none⟩::rest) σ w:=Zz hb (fun _=>Yvb (Jp hx)) h
theorem Zea{t u:Ba}{q:IntKind}{i j:Int}(hx:opv σ x=some (True,.int q i))(hy:opv σ y=some (True,.int q j))(h:SR P Z ops cl lv W0 n K (k+1) rest ((d,True,.bool (decide (i=j))) :: σ) w)(hb:(Aaa (clOf cl k) 3&&Aba d n)=true:=by exact rfl):SR P Z ops cl lv W0 n K k (⟨some d,.binOp .eql t x y u,ty,pos,after,none⟩::rest) σ w:=Zz hb (fun _=>Zoa (Jp hx) (Jp hy)) h
theorem Qld{t u:Ba}{q:IntKind}{i j:Int}(hx:opv σ x=some (True,.int q i))(hy:opv σ y=some (True,.int q j))(h:SR P Z ops cl lv W0 n K (k+1) rest ((d,True,.bool (!decide (i=j))) :: σ) w)(hb:(Aaa (clOf cl k) 3&&Aba d n)=true:=by exact rfl):SR P Z ops cl lv W0 n K k (⟨some d,.binOp .neq t x y u,ty,pos,after,none⟩::rest) σ w:=Zz hb (fun _=>Yka (Jp hx) (Jp hy)) h
theorem Uua{t u:Ba}{q:IntKind}{i j:Int}(hx:opv σ x=some (True,.int q i))(hy:opv σ y=some (True,.int q j))(h:SR P Z ops cl lv W0 n K (k+1) rest ((d,True,.bool (decide (i<j))) :: σ) w)(hb:(Aaa (clOf cl k) 3&&Aba d n)=true:=by exact rfl):SR P Z ops cl lv W0 n K k (⟨some d,.binOp .lss t x y u,ty,pos,after,none⟩::rest) σ w:=Zz hb (fun _=>Qkc (Jp hx) (Jp hy)) h
theorem Vbf{t u:Ba}{q:IntKind}{i j:Int}(hx:opv σ x=some (True,.int q i))(hy:opv σ y=some (True,.int q j))(h:SR P Z ops cl lv W0 n K (k+1) rest ((d,True,.bool (decide (j<i))) :: σ) w)(hb:(Aaa (clOf cl k) 3&&Aba d n)=true:=by exact rfl):SR P Z ops cl lv W0 n K k (⟨some d,.binOp .gtr t x y u,ty,pos,after,none⟩::rest) σ w:=Zz hb (fun _=>Qlc (Jp hx) (Jp hy)) h
theorem Zqg{t u:Ba}{q:IntKind}{i j:Int}(hx:opv σ x=some (True,.int q i))(hy:opv σ y=some (True,.int q j))(h:SR P Z ops cl lv W0 n K (k+1) rest ((d,True,.bool (decide (j≤i))) :: σ) w)(hb:(Aaa (clOf cl k) 3&&Aba d n)=true:=by exact rfl):SR P Z ops cl lv W0 n K k (⟨some d,.binOp .geq t x y u,ty,pos,after,none⟩::rest) σ w:=Zz hb (fun _=>Qmc (Jp hx) (Jp hy)) h
theorem Wgd{t u:Ba}{i j:List UInt8}(hx:opv σ x=some (True,Str i))(hy:opv σ y=some (True,Str j))(h:SR P Z ops cl lv W0 n K (k+1) rest ((d,True,.bool (decide (i=j))) :: σ) w)(hb:(Aaa (clOf cl k) 3&&Aba d n)=true:=by exact rfl):SR P Z ops cl lv W0 n K k (⟨some d,.binOp .eql t x y u,ty,pos,after,none⟩::rest) σ w:=Zz hb (fun _=>Ulb (Jp hx) (Jp hy)) h
theorem Qo{i:Nat}{vs:Array Ga}(hx:opv σ x=some (True,.tuple vs))(hv:vs[i]? = some v)(h:SR P Z ops cl lv W0 n K (k+1) rest ((d,True,v) :: σ) w)(hb:(Aaa (clOf cl k) 3&&Aba d n)=true:=by exact rfl):SR P Z ops cl lv W0 n K k (⟨some d,.extract x i,ty,pos,after,none⟩::rest) σ w:=Zz hb (fun _=>Uta (Jp hx) hv) h
end
theorem Xl{t b o:Nat}(ht:Va P t=true)(hx:opv σ x=some (True,.pointer (some ⟨b,o,none⟩)))(hc:w.cell? ⟨b,o,none⟩=some v)(h:SR P Z ops cl lv W0 n K (k+1) rest ((d,True,v) :: σ) w)(hb:(Aaa (clOf cl k) 0&&lvOf lv k&&Aba d n)=true:=by exact rfl):SR P Z ops cl lv W0 n K k (⟨some d,.load t x,ty,pos,after,none⟩::rest) σ w:=Uz hb (Zq ht (Jp hx) (fun _=>hc)) h
theorem Wm{t b o z:Nat}{l:List Ga}(ht:tyAgg P t=some z)(hx:opv σ x=some (True,.pointer (some ⟨b,o,none⟩)))(hl:l.length=z)(hc:RowAt w b o l)(h:SR P Z ops cl lv W0 n K (k+1) rest ((d,True,.agg l.toArray) :: σ) w)(hb:(Aaa (clOf cl k) 0&&lvOf lv k&&Aba d n)=true:=by exact rfl):SR P Z ops cl lv W0 n K k (⟨some d,.load t x,ty,pos,after,none⟩::rest) σ w:=Uz hb (Zo ht (Jp hx) hl (fun _=>hc)) h
end
section
variable {P:Fa} {B:List Da→Aa→Prop} {n:Nat} {N T:Act→Aa→Prop} {X:List (Nat×(Act→Aa→Prop))} {σ:List Ent} {w:Aa}
theorem Wz{x:Ea}{b:Bool}{p q:Code}(hx:opv σ x=some (True,.bool b))(h1:b=true→SZ P B n p N X T σ w)(h2:b=false→SZ P B n q N X T σ w):SZ P B n (.cond x p q) N X T σ w:=Xtc (Jp hx) h1 h2
end
def KQ(P:Fa)(B:List Da→Aa→Prop)(n:Nat)(y:Code)(N:Act→Aa→Prop)(X:List (Nat×(Act→Aa→Prop)))(T:Act→Aa→Prop)(a:Act)(u:Aa):Prop:=∃ τ,Kn n τ a∧SZ P B n y N X T τ u
section
variable {P:Fa} {B:List Da→Aa→Prop} {n:Nat} {N T:Act→Aa→Prop} {X:List (Nat×(Act→Aa→Prop))} {σ:List Ent} {w:Aa}
theorem kq{y:Code}(h:SZ P B n y N X T σ w):∀ a,Kn n σ a→KQ P B n y N X T a w:=fun a ha=>⟨σ,ha,h⟩
theorem Zj{x y:Code}(h:SZ P B n x (KQ P B n y N X T) X T σ w):SZ P B n (.seq x y) N X T σ w:=.mk fun a ha=>by
 refine wp_seq (Code.wp_mono (fun e a w q=>?_) (h a ha))
 cases e with
 | normal=>obtain ⟨τ,hk,hs⟩:=q;exact hs a hk
 | _=>exact q
end
theorem Yu{a w w':Aa}{j:Nat}(h:G a w)(hg:w.grownBy w' (some j))(hj:a.heap.size≤j):G a w':=Jf h hg fun k hk=>by injection hk with hk;omega
theorem nw1{p:Prop}(h:(2:Nat)=1):p:=absurd h Od
def clD(o:Oper):Nat:=match o.op with
 | .load ..=>0
 | .move .. | .assign .. | .pick .. | .nilCheck .. | .binOp .. | .unOp .. | .makeInterface .. | .makeFunc .. | .slice .. | .fieldAddr .. | .field .. | .indexAddr .. | .index .. | .extract .. | .build ..=>3
 | .call c=>match c.callee with
  | .builtin .len=>3
  | _=>2
 | _=>2
theorem Zl{P:Fa}{B:List Da→Aa→Prop}{n:Nat}{N T:Act→Aa→Prop}{X:List (Nat×(Act→Aa→Prop))}{σ:List Ent}{w:Aa}{id:Nat}{l:List Oper}(h:SR P (ZA B) l (l.map clD) [] w n N 0 l σ w):SZ P B n (.region id l.toArray false) N X T σ w:=Qua _ h
section
variable {P:Fa} {Z:List Da→Act→Aa→Prop} {ops:List Oper} {cl ms:List Nat} {row:RelX} {n:Nat} {K:Act→Aa→Prop} {m:Nat} {L:List Nat} {σ:List Ent} {w:Aa} {d:Nat} {op:Op} {ty:Ba} {pos:String} {after:Array Edge} {v:Ga}
theorem Yi(r:Nat)(hr:ops.toArray[r]? = some ⟨some d,op,ty,pos,after,none⟩)(hb:(L.contains r&&availB ms L r&&Aaa (clOf cl r) 0&&Aba d n)=true)
  (hv:∀ w1,GX row w w1→Rd P n σ True w1 op ty v) (h:ST P Z ops cl ms row n K m (L.erase r) ((d,True,v) :: σ) w):ST P Z ops cl ms row n K (m+1) L σ w:=Qnb r hr hb rfl hv h
theorem Zx(r:Nat)(hr:ops.toArray[r]? = some ⟨some d,op,ty,pos,after,none⟩)(hb:(L.contains r&&availB ms L r&&Aaa (clOf cl r) 3&&Aba d n)=true)
  (hv:∀ wb,Rd P n σ True wb op ty v) (h:ST P Z ops cl ms row n K m (L.erase r) ((d,True,v) :: σ) w):ST P Z ops cl ms row n K (m+1) L σ w:=Vla r hr hb rfl hv h
end
theorem gdr{a w:Aa}(g:G a w):G a w.drew:=g.trans (G.drew _)
theorem knr{n:Nat}{σ:List Ent}{w:Aa}:∀ a,Kn n σ a→Kn n σ a∧w=w:=fun _ h=>⟨h,rfl⟩
section
variable {P:Fa} {Z:List Da→Act→Aa→Prop} {ops:List Oper} {cl:List Nat} {lv:List Bool} {W0:Aa} {n:Nat} {K:Act→Aa→Prop} {k:Nat} {rest:List Oper} {σ:List Ent} {w:Aa} {d:Nat} {ty:Ba} {pos:String} {after:Array Edge} {t:Ba} {x y:Ea} {b o z:Nat} {e:Ba} {u v:Ga} {l vs:List Ga}
theorem Xdb(hs:tySize P t=some 1)(hx:opv σ x=some (True,.pointer (some ⟨b,o,none⟩)))(hy:opv σ y=some (True,u))(hu:u.cells = #[v])(hB:Blk w b e l)
  (h:∀ w1,w.grownBy w1 (some b)→w1.heap.size=w.heap.size→Blk w1 b e (l.set o v)→SR P Z ops cl lv W0 n K (k+1) rest σ w1) (hb:Aaa (clOf cl k) 2=true:=by exact rfl) (hfit:Aba o l.length=true:=by exact rfl) (h1:v.oneCell'=true:=by exact rfl) :
  SR P Z ops cl lv W0 n K k (⟨none,.store t x y,ty,pos,after,none⟩::rest) σ w:=Xr hb hs (Jp hx) (Jp hy) hu hB hfit h1 h
theorem Zfa(hs:tySize P t=some z)(hx:opv σ x=some (True,.pointer (some ⟨b,0,none⟩)))(hy:opv σ y=some (True,u))(hu:u.cells=vs.toArray)(hB:Blk w b e l)
  (h:∀ w1,w.grownBy w1 (some b)→w1.heap.size=w.heap.size→Blk w1 b e vs→SR P Z ops cl lv W0 n K (k+1) rest σ w1) (hb:Aaa (clOf cl k) 2=true:=by exact rfl) (hz:vs.length=z:=by exact rfl) (hfit:Aaa vs.length l.length=true:=by exact rfl) (h1:onesB vs=true:=by exact rfl) :
  SR P Z ops cl lv W0 n K k (⟨none,.store t x y,ty,pos,after,none⟩::rest) σ w:=Xq hb hs (Jp hx) (Jp hy) hu hz hB hfit h1 h
theorem Vfb{ps:Array (Nat×Ea)}{vs:List (Nat×Ga)}{pl:List (Nat×Nat)}{z:Ga}{zl l:List Ga}(hz:zeroOf P t=some z)(hp:Wh P t=some pl)(hx:Xda n σ True ps vs)(hzl:z.cells=zl.toArray)
  (hl:Vsb (fun i=>pl[i]?) zl vs=some l) (h:SR P Z ops cl lv W0 n K (k+1) rest ((d,True,.agg l.toArray) :: σ) w) (hb:(Aaa (clOf cl k) 3&&Aba d n)=true:=by exact rfl) :
  SR P Z ops cl lv W0 n K k (⟨some d,.build t ps,ty,pos,after,none⟩::rest) σ w:=Zz hb (fun _=>Uv l hz hzl hp hx hl) h
theorem Yha{t e z by_:Nat}{x:Ea}{b:Option Addr}{m q:Nat}(ht:tyElem P t=some (e,z,by_))(hx:opv σ x=some (True,.slice b m q))(h:SR P Z ops cl lv W0 n K (k+1) rest ((d,True,.int .i64 m) :: σ) w)(hb:(Aaa (clOf cl k) 3&&Aba d n)=true:=by exact rfl) :
  SR P Z ops cl lv W0 n K k (⟨some d,.call { callee:=.builtin .len,args:=#[x],argTypes:=#[t] },ty,pos,after,none⟩::rest) σ w:=Zz hb (fun _=>Ysa ht (Jp hx)) h
theorem Xeb{t e z by_:Nat}{b o m q:Nat}{g:IntKind}{i:Int}(ht:tyElem P t=some (e,z,by_))(hx:opv σ x=some (True,.slice (some ⟨b,o,none⟩) m q))(hy:opv σ y=some (True,.int g i))(hi:0≤i∧i<m)
  (h:SR P Z ops cl lv W0 n K (k+1) rest ((d,True,.pointer (some ⟨b,o+i.toNat*z,none⟩)) :: σ) w) (hb:(Aaa (clOf cl k) 3&&Aba d n)=true:=by exact rfl):SR P Z ops cl lv W0 n K k (⟨some d,.indexAddr t x y,ty,pos,after,none⟩::rest) σ w:=Zz hb (fun _=>Xta ht (Jp hx) (Jp hy) fun _=>hi) h
theorem Jga{t u:Ba}{i j:Int}(hx:opv σ x=some (True,.int .i64 i))(hy:opv σ y=some (True,.int .i64 j))(hr : -9223372036854775808≤i+j∧i+j≤9223372036854775807)
  (h:SR P Z ops cl lv W0 n K (k+1) rest ((d,True,.int .i64 (i+j)) :: σ) w) (hb:(Aaa (clOf cl k) 3&&Aba d n)=true:=by exact rfl):SR P Z ops cl lv W0 n K k (⟨some d,.binOp .add t x y u,ty,pos,after,none⟩::rest) σ w:=Zz hb (fun _=>Ukb (Jp hx) (Jp hy) fun _=>hr) h
end
theorem We{a w w1:Aa}{b:Nat}{e:Ba}{l:List Ga}(h:New w w1 b e l)(g:a.heap.size≤w.heap.size):a.heap.size≤b:=by have:=h.at_;omega
/-! own blocks -/
def AllOb(w:Aa):List (Nat×Ba×List Ga)→Prop
 | []=>True
 | (b,e,l)::L=>Blk w b e l∧AllOb w L
def Obk(w:Aa)(L:List (Nat×Ba×List Ga)):Prop:=(L.map Prod.fst).Nodup∧AllOb w L
section
variable {w w':Aa} {L:List (Nat×Ba×List Ga)} {b:Nat} {e:Ba} {l l':List Ga} {x0 x1 x2 x3 x4 x5 x6 x7 x8 x9 x10 x11:Nat×Ba×List Ga}
theorem Qp(w:Aa):Obk w []:=⟨List.nodup_nil,trivial⟩
theorem Qnc:∀ {L:List (Nat×Ba×List Ga)} {i:Nat},AllOb w L→L[i]? = some (b,e,l)→Blk w b e l
 | [],i,_,h=>by simp at h
 | (b',e',l')::L,0,hA,h=>by injection h with h;injection h with h1 h2;injection h2 with h2 h3;subst h1 h2 h3;exact hA.1
 | (b',e',l')::L,i+1,hA,h=>Qnc (L:=L) (i:=i) hA.2 h
theorem Obk.g(E:Obk w L)(i:Nat)(h:L[i]? = some (b,e,l)):Blk w b e l:=Qnc E.2 h
theorem Yxa{w w':Aa}:∀ {L:List (Nat×Ba×List Ga)},AllOb w L→(∀ b e l,(b,e,l)∈L→Blk w b e l→Blk w' b e l)→AllOb w' L
 | [],_,_=>trivial
 | (b,e,l)::L,h,f=>⟨f b e l Aga h.1,Yxa h.2 fun b e l hm hB=>f b e l (Ama _ hm) hB⟩
theorem Obk.grow(E:Obk w L)(g:G w w'):Obk w' L:=⟨E.1,Yxa E.2 fun _ _ _ _ h=>h.grow g⟩
theorem Obk.dr(E:Obk w L):Obk w.drew L:=E.grow (G.drew _)
theorem Woc{w:Aa}:∀ {L:List (Nat×Ba×List Ga)},AllOb w L→∀ b∈L.map Prod.fst,b<w.heap.size
 | [],_,b,hm=>by cases hm
 | (b',e,l)::L,h,b,hm=>by
  rcases Ata.1 hm with q|q;subst q;exact h.1.lt;exact Woc h.2 b q
theorem Obk.ltm(E:Obk w L){X:List Nat}(h:∀ j∈X,j∈L.map Prod.fst):∀ j∈X,j<w.heap.size:=fun j hj=>Woc E.2 j (h j hj)
theorem Obk.new(E:Obk w L)(N:New w w' b e l):Obk w' ((b,e,l)::L):=by
 refine ⟨Bya.2 ⟨fun hm=>?_,E.1⟩,N.blk,(E.grow N.g).2⟩;have:=Woc E.2 b hm;have:=N.at_;omega
theorem Obk.keep(E:Obk w L){row:Option Nat}(hg:w.grownBy w' row)(h:∀ b∈L.map Prod.fst,some b≠row):Obk w' L :=
 ⟨E.1,Yxa E.2 fun b e l hm hB=>hB.keep hg (h b (List.mem_map_of_mem (f:=Prod.fst) hm))⟩
theorem Obk.keepX(E:Obk w L){row:Option Nat}{X:List Nat}(hg:w.grownBy w' row)(hn:∀ {b},b∈X→some b≠row)(h:∀ j∈L.map Prod.fst,j∈X):Obk w' L:=E.keep hg fun b hb=>hn (h b hb)
theorem Zia{w:Aa}{b b':Nat}{e e':Ba}{l l':List Ga}(h:Blk w b e l)(h':Blk w b' e' l')(he:Aaa e e'=false):b≠b':=fun q=>by
 subst q;unfold Blk at h h';rw [h] at h';injection h' with h';injection h' with _ h';subst h';simp at he
theorem Obk.keepT(E:Obk w L){j:Nat}{e':Ba}{xs:List Ga}(hg:w.grownBy w' (some j))(hB:Blk w j e' xs)(ht:(L.all fun x=>!Aaa x.2.1 e')=true):Obk w' L :=
 ⟨E.1,Yxa E.2 fun b e l hm h=>h.keep hg fun q=>by
 injection q with q;have:=Aia.1 ht _ hm;exact Zia h hB (by simpa using this) q⟩
theorem Obk.keepN(E:Obk w L){base z m:Nat}{e':Ba}{v:Ga}{xs:List Ga}(hO:w.ownsRow base e' z v m xs)(hg:w.grownBy w' v.ownBlock)(ht:(L.all fun x=>!Aaa e' x.2.1)=true):Obk w' L :=
 ⟨E.1,Yxa E.2 fun b e l hm h=>h.keep hg fun q=>by
 have hne:=Aia.1 ht _ hm;rcases hO.2 with ⟨h1,_⟩|⟨g,cap,cur,h1,h2,h3,_⟩;rw [h1] at q;cases q;rw [h1] at q;have:b=g:=by injection q
 subst this;unfold Blk at h;rw [h] at h3;injection h3 with h3;injection h3 with _ h3;subst h3;simp at hne⟩
theorem Qoc{w w':Aa}{j:Nat}(hg:w.grownBy w' (some j)):∀ {L:List (Nat×Ba×List Ga)},j∉L.map Prod.fst→AllOb w L→AllOb w' L
 | [],_,_=>trivial
 | (b,e,l)::L,hn,h=>⟨h.1.keep hg fun q=>by injection q with q;subst q;exact hn Aga,Qoc hg (fun q=>hn (Ama _ q)) h.2⟩
theorem Obk.tl{x:Nat×Ba×List Ga}(E:Obk w (x::L)):Obk w L:=⟨(Bya.1 E.1).2,E.2.2⟩
theorem Obk.hd(E:Obk w ((b,e,l)::L)):b∉L.map Prod.fst:=(Bya.1 E.1).1
theorem Obk.s0(E:Obk w ((b,e,l)::L))(hg:w.grownBy w' (some b))(hB:Blk w' b e l'):Obk w' ((b,e,l')::L):=⟨E.1,hB,Qoc hg E.hd E.2.2⟩
theorem Obk.up{x:Nat×Ba×List Ga}(E:Obk w (x::L))(hg:w.grownBy w' (some b))(hm:b∈L.map Prod.fst){L':List (Nat×Ba×List Ga)}(h:Obk w' L')(hL:L'.map Prod.fst=L.map Prod.fst):Obk w' (x::L'):=by
 refine ⟨?_,?_,h.2⟩;show (x.1::L'.map Prod.fst).Nodup;rw [hL];exact E.1;obtain ⟨b',e',l''⟩:=x;exact E.2.1.keep hg fun q=>by injection q with q;subst q;exact E.hd hm
theorem Obk.s1(E:Obk w (x0::(b,e,l)::L))(hg:w.grownBy w' (some b))(hB:Blk w' b e l'):Obk w' (x0::(b,e,l')::L):=E.up hg Os (E.tl.s0 hg hB) rfl
theorem Obk.s2(E:Obk w (x0::x1::(b,e,l)::L))(hg:w.grownBy w' (some b))(hB:Blk w' b e l'):Obk w' (x0::x1::(b,e,l')::L):=E.up hg Os (E.tl.s1 hg hB) rfl
theorem Obk.s3(E:Obk w (x0::x1::x2::(b,e,l)::L))(hg:w.grownBy w' (some b))(hB:Blk w' b e l'):Obk w' (x0::x1::x2::(b,e,l')::L):=E.up hg Os (E.tl.s2 hg hB) rfl
theorem Obk.s4(E:Obk w (x0::x1::x2::x3::(b,e,l)::L))(hg:w.grownBy w' (some b))(hB:Blk w' b e l'):Obk w' (x0::x1::x2::x3::(b,e,l')::L):=E.up hg Os (E.tl.s3 hg hB) rfl
theorem Obk.s5(E:Obk w (x0::x1::x2::x3::x4::(b,e,l)::L))(hg:w.grownBy w' (some b))(hB:Blk w' b e l'):Obk w' (x0::x1::x2::x3::x4::(b,e,l')::L):=E.up hg Os (E.tl.s4 hg hB) rfl
theorem Obk.s6(E:Obk w (x0::x1::x2::x3::x4::x5::(b,e,l)::L))(hg:w.grownBy w' (some b))(hB:Blk w' b e l'):Obk w' (x0::x1::x2::x3::x4::x5::(b,e,l')::L):=E.up hg Os (E.tl.s5 hg hB) rfl
theorem Obk.s7(E:Obk w (x0::x1::x2::x3::x4::x5::x6::(b,e,l)::L))(hg:w.grownBy w' (some b))(hB:Blk w' b e l'):Obk w' (x0::x1::x2::x3::x4::x5::x6::(b,e,l')::L):=E.up hg Os (E.tl.s6 hg hB) rfl
theorem Obk.s8(E:Obk w (x0::x1::x2::x3::x4::x5::x6::x7::(b,e,l)::L))(hg:w.grownBy w' (some b))(hB:Blk w' b e l'):Obk w' (x0::x1::x2::x3::x4::x5::x6::x7::(b,e,l')::L):=E.up hg Os (E.tl.s7 hg hB) rfl
theorem Obk.s9(E:Obk w (x0::x1::x2::x3::x4::x5::x6::x7::x8::(b,e,l)::L))(hg:w.grownBy w' (some b))(hB:Blk w' b e l'):Obk w' (x0::x1::x2::x3::x4::x5::x6::x7::x8::(b,e,l')::L):=E.up hg Os (E.tl.s8 hg hB) rfl
theorem Obk.s10(E:Obk w (x0::x1::x2::x3::x4::x5::x6::x7::x8::x9::(b,e,l)::L))(hg:w.grownBy w' (some b))(hB:Blk w' b e l'):Obk w' (x0::x1::x2::x3::x4::x5::x6::x7::x8::x9::(b,e,l')::L):=E.up hg Os (E.tl.s9 hg hB) rfl
theorem Obk.s11(E:Obk w (x0::x1::x2::x3::x4::x5::x6::x7::x8::x9::x10::(b,e,l)::L))(hg:w.grownBy w' (some b))(hB:Blk w' b e l'):Obk w' (x0::x1::x2::x3::x4::x5::x6::x7::x8::x9::x10::(b,e,l')::L):=E.up hg Os (E.tl.s10 hg hB) rfl
theorem Obk.s12(E:Obk w (x0::x1::x2::x3::x4::x5::x6::x7::x8::x9::x10::x11::(b,e,l)::L))(hg:w.grownBy w' (some b))(hB:Blk w' b e l'):Obk w' (x0::x1::x2::x3::x4::x5::x6::x7::x8::x9::x10::x11::(b,e,l')::L):=E.up hg Os (E.tl.s11 hg hB) rfl
theorem Obk.r0(E:Obk w ((b,e,l)::L))(hB:Blk w b e l'):Obk w ((b,e,l')::L):=⟨E.1,hB,E.2.2⟩
theorem Obk.r1(E:Obk w (x0::(b,e,l)::L))(hB:Blk w b e l'):Obk w (x0::(b,e,l')::L):=⟨E.1,E.2.1,(E.tl.r0 hB).2⟩
theorem Obk.r2(E:Obk w (x0::x1::(b,e,l)::L))(hB:Blk w b e l'):Obk w (x0::x1::(b,e,l')::L):=⟨E.1,E.2.1,(E.tl.r1 hB).2⟩
theorem Obk.r3(E:Obk w (x0::x1::x2::(b,e,l)::L))(hB:Blk w b e l'):Obk w (x0::x1::x2::(b,e,l')::L):=⟨E.1,E.2.1,(E.tl.r2 hB).2⟩
theorem Obk.r4(E:Obk w (x0::x1::x2::x3::(b,e,l)::L))(hB:Blk w b e l'):Obk w (x0::x1::x2::x3::(b,e,l')::L):=⟨E.1,E.2.1,(E.tl.r3 hB).2⟩
theorem Obk.r5(E:Obk w (x0::x1::x2::x3::x4::(b,e,l)::L))(hB:Blk w b e l'):Obk w (x0::x1::x2::x3::x4::(b,e,l')::L):=⟨E.1,E.2.1,(E.tl.r4 hB).2⟩
theorem Obk.g0(E:Obk w ((b,e,l)::L)):Blk w b e l:=E.2.1
theorem Obk.g1(E:Obk w (x0::(b,e,l)::L)):Blk w b e l:=E.tl.g0
theorem Obk.g2(E:Obk w (x0::x1::(b,e,l)::L)):Blk w b e l:=E.tl.g1
theorem Obk.g3(E:Obk w (x0::x1::x2::(b,e,l)::L)):Blk w b e l:=E.tl.g2
theorem Obk.g4(E:Obk w (x0::x1::x2::x3::(b,e,l)::L)):Blk w b e l:=E.tl.g3
theorem Obk.g5(E:Obk w (x0::x1::x2::x3::x4::(b,e,l)::L)):Blk w b e l:=E.tl.g4
theorem Obk.g6(E:Obk w (x0::x1::x2::x3::x4::x5::(b,e,l)::L)):Blk w b e l:=E.tl.g5
theorem Obk.g7(E:Obk w (x0::x1::x2::x3::x4::x5::x6::(b,e,l)::L)):Blk w b e l:=E.tl.g6
theorem Obk.g8(E:Obk w (x0::x1::x2::x3::x4::x5::x6::x7::(b,e,l)::L)):Blk w b e l:=E.tl.g7
theorem Obk.g9(E:Obk w (x0::x1::x2::x3::x4::x5::x6::x7::x8::(b,e,l)::L)):Blk w b e l:=E.tl.g8
theorem Obk.g10(E:Obk w (x0::x1::x2::x3::x4::x5::x6::x7::x8::x9::(b,e,l)::L)):Blk w b e l:=E.tl.g9
theorem Obk.g11(E:Obk w (x0::x1::x2::x3::x4::x5::x6::x7::x8::x9::x10::(b,e,l)::L)):Blk w b e l:=E.tl.g10
theorem Obk.g12(E:Obk w (x0::x1::x2::x3::x4::x5::x6::x7::x8::x9::x10::x11::(b,e,l)::L)):Blk w b e l:=E.tl.g11
def selB{α:Type}:List Bool→List α→List α
 | true::m,x::L=>x::selB m L
 | false::m,_::L=>selB m L
 | _,_=>[]
theorem Ob {p : Prop} (h : p := by simp [selB]) : p := h
theorem Qob{α:Type}:∀ (m:List Bool) (L:List α),(selB m L).Sublist L
 | [],L=>List.nil_sublist L
 | true::m,[]=>List.Sublist.slnil
 | false::m,[]=>List.Sublist.slnil
 | true::m,x::L=>(Qob m L).cons_cons x
 | false::m,x::L=>(Qob m L).cons x
theorem Vce{w:Aa}:∀ {L L':List (Nat×Ba×List Ga)},AllOb w L→L'.Sublist L→AllOb w L':=fun {L L'} h hs=>by
 induction hs with
 | slnil=>trivial
 | cons x hs ih=>obtain ⟨b,e,l⟩:=x;exact ih h.2
 | cons_cons x hs ih=>obtain ⟨b,e,l⟩:=x;exact ⟨h.1,ih h.2⟩
theorem Obk.sel(E:Obk w L)(m:List Bool):Obk w (selB m L):=⟨E.1.sublist ((Qob m L).map _),Vce E.2 (Qob m L)⟩
theorem Vma{L0:List (Nat×Ba×List Ga)}(hn:(L0.map Prod.fst).Nodup)(hA:AllOb w L)(h:L.map Prod.fst=L0.map Prod.fst):Obk w L:=⟨h▸hn,hA⟩
theorem Obk.ne(E:Obk w L){b b':Nat}{e e':Ba}{l l':List Ga}(i j:Nat)(hi:L[i]? = some (b,e,l))(hj:L[j]? = some (b',e',l'))(hij:Aaa i j=false):b≠b':=fun q=>by
 have h:=E.1;have h1:(L.map Prod.fst)[i]? = some b:=by rw [List.getElem?_map,hi];rfl
 have h2:(L.map Prod.fst)[j]? = some b':=by rw [List.getElem?_map,hj];rfl
 obtain ⟨hi',e1⟩:=Aua.1 h1;obtain ⟨hj',e2⟩:=Aua.1 h2;have hp:=List.pairwise_iff_getElem.1 h;rcases Nat.lt_trichotomy i j with c|c|c;exact hp i j hi' hj' c (e1.trans (q.trans e2.symm));subst c;simp at hij;exact hp j i hj' hi' c (e2.trans (q.symm.trans e1.symm))
end
section
variable {P:Fa} {n:Nat} {σ:List Ent} {c:Prop} {wb:Aa} {ty:Ba} {v:Ga}
end
end Go.Rk
namespace Go.Rk
open Go.Proofs
open Go
@[reducible] noncomputable def PP:Fa:=Tryz.prog
theorem mix:PP.follows .mixedOrders=true:=KR
theorem Zjd:goFn PP 10=true:=KR
theorem Uva:goFn PP 13=true:=KR
theorem Zkd:goFn PP 16=true:=KR
theorem Xfb:goFn PP 18=true:=KR
theorem Qpb:goFn PP 21=true:=KR
theorem Uyc:goFn PP 22=true:=KR
theorem Jha:goFn PP 23=true:=KR
theorem Qqb:goFn PP 24=true:=KR
theorem Zsa:goFn PP 26=true:=KR
theorem Xhc:goFn PP 27=true:=KR
theorem Joa:goFn PP 28=true:=KR
theorem Zqb:goFn PP 29=true:=KR
theorem Jia:goFn PP 30=true:=KR
theorem Jx:goFn PP 31=true:=KR
theorem Ye:goFn PP 32=true:=KR
theorem Zld:goFn PP 44=true:=KR
theorem Vgb:goFn PP 50=true:=KR
theorem Zmd:goFn PP 51=true:=KR
theorem Qt:goFn PP 52=true:=KR
theorem Xgb:goFn PP 53=true:=KR
theorem Xqa:goFn PP 54=true:=KR
theorem Jq:goFn PP 55=true:=KR
theorem Up:goFn PP 56=true:=KR
theorem Vq:goFn PP 57=true:=KR
theorem Vub:goFn PP 58=true:=KR
theorem Uzc:goFn PP 59=true:=KR
theorem Qwa:goFn PP 77=true:=KR
theorem Qac:goFn PP 78=true:=KR
theorem Znd:goFn PP 79=true:=KR
theorem Jja:goFn PP 80=true:=KR
theorem Vvb:goFn PP 81=true:=KR
theorem Jh:goFn PP 82=true:=KR
theorem Yzc:goFn PP 85=true:=KR
theorem Xhb:goFn PP 86=true:=KR
theorem Qm:goFn PP 87=true:=KR
theorem Vwb:goFn PP 94=true:=KR
theorem Zod:goFn PP 96=true:=KR
theorem Uq:goFn PP 97=true:=KR
theorem Xic:goFn PP 102=true:=KR
theorem Jy:goFn PP 104=true:=KR
theorem Wt:goFn PP 106=true:=KR
theorem Vhb:goFn PP 107=true:=KR
theorem Jpa:goFn PP 108=true:=KR
theorem Uwa:goFn PP 110=true:=KR
theorem Yh:goFn PP 111=true:=KR
theorem Qa:goFn PP 112=true:=KR
theorem Xt:goFn PP 113=true:=KR
theorem Xj:goFn PP 114=true:=KR
theorem Jqa:goFn PP 115=true:=KR
theorem Zrb:goFn PP 116=true:=KR
theorem Yva:goFn PP 127=true:=KR
theorem Whd:goFn PP 129=true:=KR
theorem Xjc:goFn PP 130=true:=KR
theorem Xib:goFn PP 131=true:=KR
theorem Qrb:goFn PP 133=true:=KR
theorem Upb:goFn PP 134=true:=KR
theorem Qoa:goFn PP 137=true:=KR
theorem Jr:goFn PP 138=true:=KR
theorem Ymb:goFn PP 141=true:=KR
theorem Qn:goFn PP 142=true:=KR
theorem Qbc:goFn PP 155=true:=KR
theorem Xfa:goFn PP 159=true:=KR
theorem Jra:goFn PP 161=true:=KR
theorem Xga:goFn PP 169=true:=KR
theorem Wga:goFn PP 175=true:=KR
theorem Yia:goFn PP 176=true:=KR
theorem Zsb:goFn PP 177=true:=KR
theorem Xjb:goFn PP 178=true:=KR
theorem Ztb:goFn PP 179=true:=KR
theorem Vxb:goFn PP 180=true:=KR
theorem Xkc:goFn PP 181=true:=KR
theorem Vib:goFn PP 183=true:=KR
theorem Vcf:tySize PP 1=some 1:=KR
theorem Vdf:zeroOf PP 1=some (.nilFunc):=KR
theorem Qve:Va PP 1=true:=KR
theorem Qwe:tySize PP 2=some 1:=KR
theorem Qxe:zeroOf PP 2=some (.int .i64 0):=KR
theorem Vde:Va PP 2=true:=KR
theorem Wta:tySize PP 3=some 1:=KR
theorem Zjc:zeroOf PP 3=some (.int .i64 0):=KR
theorem Yf:Va PP 3=true:=KR
theorem Zrg:Vtb PP 3=some .i64:=KR
theorem Vef:tySize PP 4=some 1:=KR
theorem Zpd:zeroOf PP 4=some (.bool false):=KR
theorem Qye:Va PP 4=true:=KR
theorem Wid:PP.underlying 4=some .bool:=KR
theorem Qze:tySize PP 5=some 1:=KR
theorem Jae:zeroOf PP 5=some (.int .u8 0):=KR
theorem Vee:Va PP 5=true:=KR
theorem Jbe:Vtb PP 5=some .u8:=KR
theorem Vfe:tySize PP 9=some 1:=KR
theorem Vge:zeroOf PP 9=some (.string ⟨#[]⟩):=KR
theorem Yy:Va PP 9=true:=KR
theorem Vl:Vka PP 9=true:=KR
theorem Zqd:tySize PP 20=some 1:=KR
theorem Zrd:zeroOf PP 20=some (.nilIface):=KR
theorem Qcc:Va PP 20=true:=KR
theorem Qsb:PP.isIface 20=true:=KR
theorem Vb:tySize PP 22=some 1:=KR
theorem Wpc:zeroOf PP 22=some (.slice none 0 0):=KR
theorem Zg:Va PP 22=true:=KR
theorem Zc:tyElem PP 22=some (26,9,104):=KR
theorem Xv:tySize PP 24=some 2:=KR
theorem Xk:zeroOf PP 24=some (.agg #[.int .i64 0,.string ⟨#[]⟩]):=KR
theorem Zm:tyAgg PP 24=some 2:=KR
theorem Wo:Zgc PP 24=some [0,1]:=KR
theorem Vyb:Yp PP 24 0=some 0:=KR
theorem Vzb:Yp PP 24 1=some 1:=KR
theorem Vm:Wh PP 24=some [(0,1),(1,1)]:=KR
theorem Yj:tySize PP 26=some 9:=KR
theorem Zs:zeroOf PP 26=some (.agg #[.int .i64 0,.string ⟨#[]⟩,.int .i64 0,.int .i64 0,.slice none 0 0,.int .i64 0,.string ⟨#[]⟩,.int .i64 0,.int .i64 0]):=KR
theorem Zf:tyAgg PP 26=some 9:=KR
theorem Xi:Yp PP 26 0=some 0:=KR
theorem Xe:Yp PP 26 1=some 1:=KR
theorem Ur:Yp PP 26 2=some 2:=KR
theorem Xz:Yp PP 26 3=some 3:=KR
theorem Zh:Yp PP 26 4=some 4:=KR
theorem Yk:Yp PP 26 5=some 5:=KR
theorem Zba:Yp PP 26 6=some 7:=KR
theorem Jka:Yp PP 26 7=some 8:=KR
theorem Zta:Wh PP 26=some [(0,1),(1,1),(2,1),(3,1),(4,1),(5,2),(7,1),(8,1)]:=KR
theorem Vva:tySize PP 30=some 1:=KR
theorem Qtb:zeroOf PP 30=some (.int .i64 0):=KR
theorem Yla:Va PP 30=true:=KR
theorem Zkc:tySize PP 48=some 2:=KR
theorem Jsa:zeroOf PP 48=some (.agg #[.int .i64 0,.int .i64 0]):=KR
theorem Qub:tyAgg PP 48=some 2:=KR
theorem Qvb:Zhc PP 48=true:=KR
theorem Uxa:Yp PP 48 0=some 0:=KR
theorem Uya:Yp PP 48 1=some 1:=KR
theorem Jta:Wh PP 48=some [(0,1),(1,1)]:=KR
theorem Uqb:tySize PP 50=some 1:=KR
theorem Urb:zeroOf PP 50=some (.pointer none):=KR
theorem Vjb:Va PP 50=true:=KR
theorem Usb:tySize PP 51=some 1:=KR
theorem Utb:zeroOf PP 51=some (.map none):=KR
theorem Qy:Va PP 51=true:=KR
theorem Zub:tySize PP 52=some 1:=KR
theorem Zvb:zeroOf PP 52=some (.map none):=KR
theorem Ji:Va PP 52=true:=KR
theorem Qwb:tySize PP 53=some 1:=KR
theorem Qxb:zeroOf PP 53=some (.map none):=KR
theorem Uza:Va PP 53=true:=KR
theorem Wua:tySize PP 54=some 1:=KR
theorem Wva:zeroOf PP 54=some (.map none):=KR
theorem Wu:Va PP 54=true:=KR
theorem Vk:tySize PP 55=some 1:=KR
theorem Jua:zeroOf PP 55=some (.slice none 0 0):=KR
theorem Yo:Va PP 55=true:=KR
theorem Yt:tyElem PP 55=some (82,1,24):=KR
theorem Wrb:tySize PP 56=some 1:=KR
theorem Vhe:zeroOf PP 56=some (.slice none 0 0):=KR
theorem Zwb:Va PP 56=true:=KR
theorem Zca:tyElem PP 56=some (3,1,8):=KR
theorem Uw:tySize PP 57=some 1:=KR
theorem Wqc:zeroOf PP 57=some (.slice none 0 0):=KR
theorem Vw:Va PP 57=true:=KR
theorem Wf:tyElem PP 57=some (24,2,24):=KR
theorem Zlc:tySize PP 59=some 16:=KR
theorem Jva:zeroOf PP 59=some (.agg #[.int .i64 0,.string ⟨#[]⟩,.int .i64 0,.int .i64 0,.slice none 0 0,.int .i64 0,.string ⟨#[]⟩,.int .i64 0,.int .i64 0,.map none,.map none,.map none,.map none,.slice none 0 0,.slice none 0 0,.slice none 0 0]):=KR
theorem Qyb:tyAgg PP 59=some 16:=KR
theorem Qaa:Yp PP 59 0=some 0:=KR
theorem Js:Yp PP 59 1=some 9:=KR
theorem Ywa:Yp PP 59 2=some 10:=KR
theorem Qba:Yp PP 59 3=some 11:=KR
theorem Qh:Yp PP 59 4=some 12:=KR
theorem Xf:Yp PP 59 5=some 13:=KR
theorem Jt:Yp PP 59 6=some 14:=KR
theorem Vx:Yp PP 59 7=some 15:=KR
theorem Jwa:Wh PP 59=some [(0,9),(9,1),(10,1),(11,1),(12,1),(13,1),(14,1),(15,1)]:=KR
theorem Zja:tySize PP 61=some 4:=KR
theorem Uf:zeroOf PP 61=some (.agg #[.int .i64 0,.slice none 0 0,.int .i64 0,.string ⟨#[]⟩]):=KR
theorem Qca:tyAgg PP 61=some 4:=KR
theorem Vna:Yp PP 61 0=some 0:=KR
theorem Qz:Yp PP 61 1=some 1:=KR
theorem Ja:Yp PP 61 2=some 2:=KR
theorem Xha:Wh PP 61=some [(0,1),(1,1),(2,2)]:=KR
theorem Wwa:tySize PP 64=some 1:=KR
theorem Wxa:zeroOf PP 64=some (.pointer none):=KR
theorem Wha:Va PP 64=true:=KR
theorem Xva:tySize PP 65=some 1:=KR
theorem Xwa:zeroOf PP 65=some (.slice none 0 0):=KR
theorem Xpa:Va PP 65=true:=KR
theorem Xxa:tyElem PP 65=some (96,6,64):=KR
theorem Qda:tySize PP 67=some 17:=KR
theorem Qea:zeroOf PP 67=some (.agg #[.int .i64 0,.string ⟨#[]⟩,.int .i64 0,.int .i64 0,.slice none 0 0,.int .i64 0,.string ⟨#[]⟩,.int .i64 0,.int .i64 0,.slice none 0 0,.int .i64 0,.int .i64 0,.slice none 0 0,.int .i64 0,.string ⟨#[]⟩,.int .i64 0,.int .i64 0]):=KR
theorem Vwa:tyAgg PP 67=some 17:=KR
theorem Wya:Yp PP 67 0=some 0:=KR
theorem Wza:Yp PP 67 1=some 9:=KR
theorem Vaa:Yp PP 67 2=some 10:=KR
theorem Vba:Yp PP 67 3=some 11:=KR
theorem Vca:Yp PP 67 4=some 12:=KR
theorem Vda:Yp PP 67 5=some 13:=KR
theorem Vea:Yp PP 67 6=some 15:=KR
theorem Vfa:Yp PP 67 7=some 16:=KR
theorem Qfa:Wh PP 67=some [(0,9),(9,1),(10,1),(11,1),(12,1),(13,2),(15,1),(16,1)]:=KR
theorem Yqa:tySize PP 70=some 1:=KR
theorem Xlc:zeroOf PP 70=some (.slice none 0 0):=KR
theorem Un:Va PP 70=true:=KR
theorem Vc:tyElem PP 70=some (94,3,32):=KR
theorem Vxa:tySize PP 73=some 1:=KR
theorem Vya:zeroOf PP 73=some (.pointer none):=KR
theorem Vga:Va PP 73=true:=KR
theorem Qpa:tySize PP 75=some 4:=KR
theorem Qqa:zeroOf PP 75=some (.agg #[.slice none 0 0,.int .i64 0,.int .i64 0,.bool false]):=KR
theorem Qga:tyAgg PP 75=some 4:=KR
theorem Vza:Yp PP 75 0=some 0:=KR
theorem Uaa:Yp PP 75 1=some 1:=KR
theorem Uba:Yp PP 75 2=some 2:=KR
theorem Uca:Yp PP 75 3=some 3:=KR
theorem Qra:Wh PP 75=some [(0,1),(1,1),(2,1),(3,1)]:=KR
theorem Ynb:tySize PP 79=some 1:=KR
theorem Yob:zeroOf PP 79=some (.nilFunc):=KR
theorem Zxb:Va PP 79=true:=KR
theorem Wia:tySize PP 82=some 1:=KR
theorem Zua:zeroOf PP 82=some (.slice none 0 0):=KR
theorem Vh:Va PP 82=true:=KR
theorem Wv:tyElem PP 82=some (84,5,56):=KR
theorem Qzb:tySize PP 84=some 5:=KR
theorem Qq:zeroOf PP 84=some (.agg #[.string ⟨#[]⟩,.int .i64 0,.string ⟨#[]⟩,.int .i64 0,.int .i64 0]):=KR
theorem Ju:tyAgg PP 84=some 5:=KR
theorem Voa:Yp PP 84 0=some 0:=KR
theorem Vpa:Yp PP 84 1=some 1:=KR
theorem Vqa:Yp PP 84 2=some 3:=KR
theorem Vra:Yp PP 84 3=some 4:=KR
theorem Xia:Wh PP 84=some [(0,1),(1,2),(3,1),(4,1)]:=KR
theorem Zsd:tySize PP 94=some 3:=KR
theorem Qr:zeroOf PP 94=some (.agg #[.int .i64 0,.string ⟨#[]⟩,.int .i64 0]):=KR
theorem Uab:tyAgg PP 94=some 3:=KR
theorem Wrc:Yp PP 94 0=some 0:=KR
theorem Wsc:Yp PP 94 1=some 1:=KR
theorem Wtc:Yp PP 94 2=some 2:=KR
theorem Uda:Wh PP 94=some [(0,1),(1,1),(2,1)]:=KR
theorem Uea:tySize PP 96=some 6:=KR
theorem Ufa:zeroOf PP 96=some (.agg #[.string ⟨#[]⟩,.int .i64 0,.string ⟨#[]⟩,.int .i64 0,.int .i64 0,.int .i64 0]):=KR
theorem Vha:tyAgg PP 96=some 6:=KR
theorem Wja:Yp PP 96 0=some 0:=KR
theorem Wka:Yp PP 96 1=some 1:=KR
theorem Wla:Yp PP 96 2=some 3:=KR
theorem Wma:Yp PP 96 3=some 4:=KR
theorem Wna:Yp PP 96 4=some 5:=KR
theorem Uga:Wh PP 96=some [(0,1),(1,2),(3,1),(4,1),(5,1)]:=KR
theorem Uub:tySize PP 102=some 1:=KR
theorem Uvb:zeroOf PP 102=some (.nilFunc):=KR
theorem Vkb:Va PP 102=true:=KR
theorem Zmc:tySize PP 103=some 1:=KR
theorem Jxa:zeroOf PP 103=some (.nilFunc):=KR
theorem Zka:Va PP 103=true:=KR
theorem Ztd:tySize PP 108=some 13:=KR
theorem Zud:zeroOf PP 108=some (.agg #[.string ⟨#[]⟩,.string ⟨#[]⟩,.string ⟨#[]⟩,.string ⟨#[]⟩,.string ⟨#[]⟩,.string ⟨#[]⟩,.string ⟨#[]⟩,.string ⟨#[]⟩,.string ⟨#[]⟩,.string ⟨#[]⟩,.string ⟨#[]⟩,.string ⟨#[]⟩,.string ⟨#[]⟩]):=KR
theorem Ubb:tyAgg PP 108=some 13:=KR
theorem Zvd:Zid PP 108=some 13:=KR
theorem Uwb:tySize PP 109=some 1:=KR
theorem Uxb:zeroOf PP 109=some (.nilFunc):=KR
theorem Vlb:Va PP 109=true:=KR
theorem Vmb:tySize PP 115=some 1:=KR
theorem Vnb:zeroOf PP 115=some (.slice none 0 0):=KR
theorem Xkb:Va PP 115=true:=KR
theorem Jb:tyElem PP 115=some (103,1,8):=KR
theorem Vie:tySize PP 120=some 1:=KR
theorem Vje:zeroOf PP 120=some (.int .u64 0):=KR
theorem Qmd:Va PP 120=true:=KR
theorem Jab:tySize PP 123=some 1:=KR
theorem Jbb:zeroOf PP 123=some (.pointer none):=KR
theorem Uyb:Va PP 123=true:=KR
theorem Xmc:tySize PP 127=some 4:=KR
theorem Xnc:zeroOf PP 127=some (.agg #[.string ⟨#[]⟩,.int .i64 0,.slice none 0 0,.slice none 0 0]):=KR
theorem Znc:tyAgg PP 127=some 4:=KR
theorem Wq:Yp PP 127 0=some 0:=KR
theorem Ys:Yp PP 127 1=some 1:=KR
theorem Qb:Yp PP 127 2=some 2:=KR
theorem Xja:Yp PP 127 3=some 3:=KR
theorem Xoc:Wh PP 127=some [(0,1),(1,1),(2,1),(3,1)]:=KR
theorem Xpc:tySize PP 130=some 1:=KR
theorem Xqc:zeroOf PP 130=some (.slice none 0 0):=KR
theorem Zoc:Va PP 130=true:=KR
theorem Yjb:tyElem PP 130=some (134,3,40):=KR
theorem Zwd:tySize PP 134=some 3:=KR
theorem Uha:zeroOf PP 134=some (.agg #[.string ⟨#[]⟩,.int .i64 0,.string ⟨#[]⟩]):=KR
theorem Qdc:tyAgg PP 134=some 3:=KR
theorem Xlb:Yp PP 134 0=some 0:=KR
theorem Xmb:Yp PP 134 1=some 1:=KR
theorem Jcb:Wh PP 134=some [(0,1),(1,2)]:=KR
theorem Jce:tySize PP 146=some 1:=KR
theorem Jde:zeroOf PP 146=some (.nilIface):=KR
theorem Vke:Va PP 146=true:=KR
theorem Wjd:PP.isIface 146=true:=KR
theorem Zxd:tySize PP 149=some 27:=KR
theorem Zyd:zeroOf PP 149=some (.agg #[.string ⟨#[]⟩,.string ⟨#[]⟩,.string ⟨#[]⟩,.string ⟨#[]⟩,.string ⟨#[]⟩,.string ⟨#[]⟩,.string ⟨#[]⟩,.string ⟨#[]⟩,.string ⟨#[]⟩,.string ⟨#[]⟩,.string ⟨#[]⟩,.string ⟨#[]⟩,.string ⟨#[]⟩,.string ⟨#[]⟩,.string ⟨#[]⟩,.string ⟨#[]⟩,.string ⟨#[]⟩,.string ⟨#[]⟩,.string ⟨#[]⟩,.string ⟨#[]⟩,.string ⟨#[]⟩,.string ⟨#[]⟩,.string ⟨#[]⟩,.string ⟨#[]⟩,.string ⟨#[]⟩,.string ⟨#[]⟩,.string ⟨#[]⟩]):=KR
theorem Ucb:tyAgg PP 149=some 27:=KR
theorem Zzd:Zid PP 149=some 27:=KR
theorem Zpc:tySize PP 152=some 1:=KR
theorem Zqc:zeroOf PP 152=some (.int .i64 0):=KR
theorem Jdb:Va PP 152=true:=KR
theorem Ypb:tySize PP 156=some 1:=KR
theorem Yqb:zeroOf PP 156=some (.pointer none):=KR
theorem Zyb:Va PP 156=true:=KR
theorem Wkd:tySize PP 160=some 1:=KR
theorem Wld:zeroOf PP 160=some (.slice none 0 0):=KR
theorem Yad:Va PP 160=true:=KR
theorem Wmd:tyElem PP 160=some (5,1,1):=KR
theorem Vob:tySize PP 162=some 3:=KR
theorem Vpb:zeroOf PP 162=some (.agg #[.string ⟨#[]⟩,.string ⟨#[]⟩,.nilIface]):=KR
theorem Xnb:tyAgg PP 162=some 3:=KR
theorem Yrb:Yp PP 162 0=some 0:=KR
theorem Ysb:Yp PP 162 1=some 1:=KR
theorem Ytb:Yp PP 162 2=some 2:=KR
theorem Vqb:Wh PP 162=some [(0,1),(1,1),(2,1)]:=KR
theorem Qnd:tySize PP 164=some 1:=KR
theorem Qod:zeroOf PP 164=some (.pointer none):=KR
theorem Wnd:Va PP 164=true:=KR
end Go.Rk
namespace Go.Rk
open Go.Proofs
open Go Go.RowKit
/-! frames without their deferred calls -/
def wd(ds:List Deferred)(a:Act):Act:={ a with defers:=ds }
theorem Uzb(ds:List Deferred)(a:Act)(d:Option Tmp)(v:Ga):(wd ds a).put d v=wd ds (a.put d v):=by cases d <;> rfl
theorem Yhe(a:Act):wd a.defers (wd [] a)=a:=by cases a;rfl
theorem Xob{a:Act}(h:a.defers=[])(ds:List Deferred):wd [] (wd ds a)=a:=by cases a;cases h;rfl
theorem Kn.strip{n:Nat}{σ:List Ent}{a:Act}(h:Kn n σ a)(ds:List Deferred):wd [] (wd ds a)=a:=Xob h.2.1 ds
theorem Jv(a:Act)(d:Option Tmp)(v:Ga):(a.put d v).defers=a.defers:=by cases d <;> rfl
abbrev DPost:=List Deferred→Act→Aa→Prop
def onD(N:DPost)(a:Act)(w:Aa):Prop:=N a.defers (wd [] a) w
theorem RS.wd{P:Fa}{Z:List Da→DPost}{ops:Array Oper}{cl:Nat→Nat}{lv:Nat→Bool}{W0:Aa}{N:DPost}(ds:List Deferred):∀ (L:List Nat) (a:Act) (w:Aa),a.defers=[]→
  RS P (fun ch a w=>Z ch ds a w) ops cl lv W0 (N ds) L a w→RS P (fun ch=>onD (Z ch)) ops cl lv W0 (onD N) L (wd ds a) w
 | [],a,w,h0,h=>by
  show N ds (Go.Rk.wd [] (Go.Rk.wd ds a)) w;rw [Xob h0];exact h
 | i::rest,a,w,h0,⟨o,ho,hb⟩=>by
  refine ⟨o,ho,?_⟩;by_cases hc:cl i=0∨cl i=3;rw [if_pos hc] at hb ⊢;obtain ⟨v,h1,h2,h3⟩:=hb;refine ⟨v,h1,h2,?_⟩;rw [Uzb];exact RS.wd ds rest _ _ ((Jv a o.dst v).trans h0) h3;rw [if_neg hc] at hb ⊢;by_cases hw:Ha o (yielded ops a.tmps)=true;rw [if_pos hw] at hb;refine (if_pos (show Ha o (yielded ops (Go.Rk.wd ds a).tmps)=true from hw)).mpr ?_;refine Eff.turn (a:=a) (b:=Go.Rk.wd ds a) J (fun ch w' hz=>?_) (fun v w' _ hk=>?_) hb;show Z ch ds (Go.Rk.wd [] (Go.Rk.wd ds a)) w';rw [Xob h0];exact hz;rw [Uzb];exact RS.wd ds rest _ _ ((Jv a o.dst v).trans h0) hk;rw [if_neg hw] at hb;refine (if_neg (show ¬ Ha o (yielded ops (Go.Rk.wd ds a).tmps)=true from hw)).mpr ?_;rw [Uzb];exact RS.wd ds rest _ _ ((Jv a o.dst undef).trans h0) hb
theorem RT.wd{P:Fa}{Z:List Da→DPost}{ops:Array Oper}{cl:Nat→Nat}{wt:Nat→Nat→Bool}{row:RelX}{N:DPost}(ds:List Deferred):∀ (m:Nat) (L:List Nat) (a:Act) (w:Aa),a.defers=[]→
  RT P (fun ch a w=>Z ch ds a w) ops cl wt row (N ds) m L a w→RT P (fun ch=>onD (Z ch)) ops cl wt row (onD N) m L (wd ds a) w
 | 0,L,a,w,h0,h=>⟨h.1,by
  show N ds (Go.Rk.wd [] (Go.Rk.wd ds a)) w;rw [Xob h0];exact h.2⟩
 | m+1,L,a,w,h0,.inl ⟨r,hr,hav,hc,o,ho,v,h1,h2,h3⟩=>.inl ⟨r,hr,hav,hc,o,ho,v,h1,h2,by
  rw [Uzb];exact RT.wd ds m _ _ _ ((Jv a o.dst v).trans h0) h3⟩
 | m+1,L,a,w,h0,.inr ⟨hno,hall⟩=>.inr ⟨hno,fun j hj hav=>by
  obtain ⟨o,ho,hb⟩:=hall j hj hav;refine ⟨o,ho,?_⟩;by_cases hw:Ha o (yielded ops a.tmps)=true;rw [if_pos hw] at hb;refine (if_pos (show Ha o (yielded ops (Go.Rk.wd ds a).tmps)=true from hw)).mpr ?_;refine EffQ.turn (a:=a) (b:=Go.Rk.wd ds a) J (fun ch w' hz=>?_) (fun v w' _ hk=>?_) hb;show Z ch ds (Go.Rk.wd [] (Go.Rk.wd ds a)) w';rw [Xob h0];exact hz;rw [Uzb];exact RT.wd ds m _ _ _ ((Jv a o.dst v).trans h0) hk;rw [if_neg hw] at hb;refine (if_neg (show ¬ Ha o (yielded ops (Go.Rk.wd ds a).tmps)=true from hw)).mpr ?_;rw [Uzb];exact RT.wd ds m _ _ _ ((Jv a o.dst undef).trans h0) hb⟩
def QofD(N:DPost)(X:List (Nat×DPost))(T:DPost)(Z:List Da→DPost):Exit→Act→Aa→Prop
 | .normal,a,w=>onD N a w
 | .ret,a,w=>onD T a w
 | .exit id,a,w=>match X.lookup id with|some k=>onD k a w|none=>False
 | .panic ch,a,w=>onD (Z ch) a w
 | _,_,_=>False
def SCD(P:Fa)(ρ:Option Nat)(n:Nat)(ds:List Deferred)(c:Code)(N:DPost)(X:List (Nat×DPost))(T:DPost)(Z:List Da→DPost)(σ:List Ent)(w:Aa):Prop :=
 ∀ a,Kn n σ a→c.wpIn (WF ρ) 0 P (QofD N X T Z) (wd ds a) w
section
variable {P:Fa} {ρ:Option Nat} {n:Nat} {ds:List Deferred} {N T:DPost} {X:List (Nat×DPost)} {Z:List Da→DPost} {σ:List Ent} {w:Aa}
theorem Uia{c:Code}(τ:List Ent)(hs:Sub τ σ)(h:SCD P ρ n ds c N X T Z τ w):SCD P ρ n ds c N X T Z σ w:=fun a ha=>h a (ha.sub hs)
theorem Wg{x y:Code}(h:∀ K:DPost,(∀ ds τ u,SCD P ρ n ds y N X T Z τ u→∀ a,Kn n τ a→K ds a u)→SCD P ρ n ds x K X T Z σ w):SCD P ρ n ds (.seq x y) N X T Z σ w:=fun a ha=>by
 refine wpIn_seq (wpIn_mono (h (fun ds a w=>y.wpIn (WF ρ) 0 P (QofD N X T Z) (wd ds a) w) (fun ds τ u hy a ha=>hy a ha) a ha) (fun e a w q=>?_))
 cases e with
 | normal =>
  have q:y.wpIn (WF ρ) 0 P (QofD N X T Z) (wd a.defers (wd [] a)) w:=q;rw [Yhe] at q;exact q
 | _=>exact q
theorem Jeb(h:∀ a,Kn n σ a→N ds a w):SCD P ρ n ds .skip N X T Z σ w:=fun a ha=>wpIn_skip (show N ds (wd [] (wd ds a)) w by rw [ha.strip];exact h a ha)
theorem Jfb(h:∀ a,Kn n σ a→T ds a w):SCD P ρ n ds .ret N X T Z σ w:=fun a ha=>wpIn_ret (show T ds (wd [] (wd ds a)) w by rw [ha.strip];exact h a ha)
theorem Jee{id:Nat}{k:DPost}(hk:X.lookup id=some k)(h:∀ a,Kn n σ a→k ds a w):SCD P ρ n ds (.exit id) N X T Z σ w:=fun a ha=>wpIn_exit (by
 show match X.lookup id with|some k=>onD k (wd ds a) w|none=>False
 rw [hk];show k ds (wd [] (wd ds a)) w;rw [ha.strip];exact h a ha)
theorem Wsb{id:Nat}{c:Code}(h:SCD P ρ n ds c N ((id,N)::X) T Z σ w):SCD P ρ n ds (.block id c) N X T Z σ w:=fun a ha=>by
 refine wpIn_block (wpIn_mono (h a ha) (fun e a w q=>?_))
 cases e with
 | exit id' =>
  simp only [Exit.inBlock];by_cases he:id'=id;subst he;rw [if_pos rfl];simpa [QofD,List.lookup] using q;rw [if_neg he];simp only [QofD] at q ⊢;rw [List.lookup_cons] at q;have:(id' == id)=false:=by simpa using he
  rw [this] at q;exact q
 | _=>exact q
theorem Xpb{x:Ea}{b:Bool}{p q:Code}(hx:Ev n σ True x (.bool b))(h1:b=true→SCD P ρ n ds p N X T Z σ w)(h2:b=false→SCD P ρ n ds q N X T Z σ w):SCD P ρ n ds (.cond x p q) N X T Z σ w:=fun a ha =>
 wpIn_cond_split (show (wd ds a).eval x = .bool b from hx a ha trivial) (fun h=>h1 h a ha) (fun h=>h2 h a ha)
theorem Wc{id:Nat}{l:List Oper}(cl:List Nat)(h:SR P (fun ch a w=>Z ch ds a w) l cl [] w n (N ds) 0 l σ w):SCD P ρ n ds (.region id l.toArray false) N X T Z σ w:=fun a ha=>by
 have h1:=h (fun j o ho=>by simpa using ho) a ha;have e:lvOf []=fun _=>true:=by funext i;simp [lvOf]
 rw [e] at h1;have h2:=RS.wd (Z:=Z) (N:=N) ds _ a w ha.2.1 h1;rw [show List.range' 0 l.length=Aea l.toArray.size by rw [List.range_eq_range'];simp] at h2;exact Zcc (Z:=fun ch=>onD (Z ch)) (fun ch a w h=>h) h2
theorem Vle{c:Code}{α:Type}(I:α→Aa→Prop)(σf:α→List Ent)(df:α→List Deferred)(μ:α→Nat)(x0:α)(h0:I x0 w)(hd:df x0=ds)(hs:Sub (σf x0) σ)
 (round:∀ x w,I x w→SCD P ρ n (df x) c (fun ds' a' w'=>∃ y,df y=ds'∧Kn n (σf y) a'∧I y w'∧μ y < μ x) X T Z (σf x) w):SCD P ρ n ds (.loop c) N X T Z σ w:=fun a ha=>by
 intro b k cs hro hb hr
 have key:∀ m x a w,μ x=m→Kn n (σf x) a→I x w→
   ∃ e a' w',QofD N X T Z e a' w'∧ArrivesIn (Machine.fenced P (WF ρ)) P (lone (b.atR (wd (df x) a) (.code c :: .inLoop c::k)) cs w) b k cs e a' w':=by
  intro m
  induction m using Nat.strongRecOn with
  | _ m ih =>
   intro x a w hm hk hI
   obtain ⟨e,a₁,w₁,hq,harr⟩:=round x w hI a hk b (.inLoop c::k) cs hro hb hr
   cases e with
   | normal =>
    obtain ⟨y,hd1,hk1,hI1,hlt⟩:=hq
    obtain ⟨e₂,a₂,w₂,hq₂,harr₂⟩:=ih (μ y) (hm▸hlt) y _ w₁ rfl hk1 hI1
    rw [hd1,Yhe] at harr₂
    exact ⟨e₂,a₂,w₂,hq₂,.of_steps (StepsIn.trans harr (.one (fenced_calm hb hr rfl) stepR_inLoop)) harr₂⟩
   | exit id=>exact ⟨.exit id,a₁,w₁,hq,.pass (x:=.inLoop c) rfl (fun _ _=>.inl Os) harr⟩
   | goto l=>exact hq.elim
   | ret=>exact ⟨.ret,a₁,w₁,hq,.pass (x:=.inLoop c) rfl (fun _ _=>.inl Os) harr⟩
   | panic ch=>exact ⟨.panic ch,a₁,w₁,hq,.pass (x:=.inLoop c) rfl (fun _ _=>.inl Os) harr⟩
   | outgrown=>exact hq.elim
 obtain ⟨e,a',w',hq,harr⟩:=key _ x0 a w rfl (ha.sub hs) h0;rw [hd] at harr;exact ⟨e,a',w',hq,.of_steps (.one (fenced_calm hb hr rfl) stepR_loop) harr⟩
theorem Vme{c:Code}{α:Type}(I:α→Aa→Prop)(σc:List Ent)(σf:α→List Ent)(μ:α→Nat)(x0:α)(h0:I x0 w)(hs:Sub (σf x0 ++ σc) σ)
 (round:∀ x w,I x w→SCD P ρ n ds c (fun ds' a' w'=>ds'=ds∧∃ y,Kn n (σf y ++ σc) a'∧I y w'∧μ y < μ x) X T Z (σf x ++ σc) w):SCD P ρ n ds (.loop c) N X T Z σ w:=by
 refine Vle I (fun x=>σf x ++ σc) (fun _=>ds) μ x0 h0 J hs fun x w h=>fun a ha=>wpIn_mono (round x w h a ha) (fun e a w q=>?_)
 cases e with
 | normal=>obtain ⟨q1,y,q2⟩:=q;exact ⟨y,q1.symm,q2⟩
 | _=>exact q
end
/-! calls that may panic; rounds -/
def RP(R:Ga→Aa→Prop)(Rp:List Da→Aa→Prop)(e:Ending)(w:Aa):Prop:=(∃ v,e = .returned v∧R v w)∨(∃ ch,e = .panicked ch∧Rp ch w)
def RetP(P:Fa)(f:FuncId)(args:Array Ga)(w:Aa)(R:Ga→Aa→Prop)(Rp:List Da→Aa→Prop):Prop:=Calls P f args w (RP R Rp)
theorem RetP.mono{P:Fa}{f:FuncId}{args:Array Ga}{w:Aa}{R R':Ga→Aa→Prop}{Rp Rp':List Da→Aa→Prop}(h:RetP P f args w R Rp)(hr:∀ v w',R v w'→R' v w')(hp:∀ ch w',Rp ch w'→Rp' ch w'):RetP P f args w R' Rp' :=
 Calls.mono h fun _ _ h=>h.imp (fun ⟨v,e,k⟩=>⟨v,e,hr v _ k⟩) (fun ⟨ch,e,k⟩=>⟨ch,e,hp ch _ k⟩)
theorem RetP.ret{P:Fa}{f:FuncId}{args:Array Ga}{w:Aa}{R:Ga→Aa→Prop}{Rp:List Da→Aa→Prop}(h:RetP P f args w R Rp)(hp:∀ ch w',¬ Rp ch w'):Ret P f args w R :=
 Calls.mono h fun _ _ h=>h.elim id fun ⟨_,_,k⟩=>absurd k (hp _ _)
def Yld(P:Fa)(l:Nat)(args:Array Ga)(w:Aa)(R:Ga→Aa→Prop):Prop :=
 ∃ fn tmps asg body,(Instr.yield l args).run P w = .ok (.round l fn tmps asg body) w∧RoundIn Fence.wide 0 P l fn tmps asg body w fun e w'=>∃ v,e = .returned v∧R v w'
theorem Yld.mono{P:Fa}{l:Nat}{args:Array Ga}{w:Aa}{R R':Ga→Aa→Prop}(h:Yld P l args w R)(hr:∀ v w',R v w'→R' v w'):Yld P l args w R':=by
 obtain ⟨fn,tmps,asg,body,h1,h2⟩:=h;exact ⟨fn,tmps,asg,body,h1,RoundIn.mono h2 fun _ _ ⟨v,e,k⟩=>⟨v,e,hr v _ k⟩⟩
@[reducible] def yldV(l:Nat):Ga:=.func (.yield l) #[] #[]
section
variable {P:Fa} {Z:List Da→Act→Aa→Prop} {ops:List Oper} {cl:List Nat} {lv:List Bool} {W0:Aa} {n:Nat} {K:Act→Aa→Prop} {k:Nat} {rest:List Oper} {σ:List Ent} {w:Aa} {d:Nat} {op:Op} {ty:Ba} {pos:String} {after:Array Edge} {v:Ga}
theorem Zva{f:FuncId}{args:Array Ga}{R:Ga→Aa→Prop}{Rp:List Da→Aa→Prop}(hb:(!Aaa (clOf cl k) 0 && !Aaa (clOf cl k) 3&&Aba d n)=true)(hr:RunC P n σ True w op ty f args)(hC:RetP P f args w R Rp)
 (hz:∀ ch w',Rp ch w'→∀ a,Kn n σ a→Z ch a w')
 (h:∀ v w',R v w'→(clOf cl k=1→G w w')∧SR P Z ops cl lv W0 n K (k+1) rest ((d,True,v) :: σ) w') :
 SR P Z ops cl lv W0 n K k (⟨some d,op,ty,pos,after,none⟩::rest) σ w:=.mk fun hl a ha=>by
 obtain ⟨h0,h1⟩:=Jd hl;simp only [Aca,Bool.not_eq_true'] at hb;rw [Afa,Aka];refine ⟨_,h0,?_⟩;rw [if_neg (fun he=>by rcases he with he|he <;> rw [he] at hb <;> simp at hb),if_pos Jma]
 refine .inr (.inr (.inl ⟨f,args,hr _ _ _ _ a ha trivial,Calls.mono hC fun e w' h'=>?_⟩));rcases h' with ⟨v,he,hv⟩|⟨ch,he,hp⟩;obtain ⟨q1,q2⟩:=h v w' hv;exact .inl ⟨v,he,fun hh=>q1 (by simpa using hh),q2 h1 _ (ha.put hb.2 (fun _=>rfl) (fun hn=>absurd trivial hn))⟩;exact .inr ⟨ch,he,hz ch w' hp a ha⟩
end
/-! ends -/
def TD(P:Fa)(fn:Func)(R:Ga→Aa→Prop)(Rp:List Da→Aa→Prop):DPost:=fun ds a w=>LeavesInM Fence.wide 0 P fn a.tmps (RP R Rp) ds .returning w
def ZD(P:Fa)(fn:Func)(R:Ga→Aa→Prop)(Rp:List Da→Aa→Prop)(ch:List Da):DPost:=fun ds a w=>LeavesInM Fence.wide 0 P fn a.tmps (RP R Rp) ds (.panicking ch) w
theorem Xqb{P:Fa}{f:FuncId}{fn:Func}{c:Code}{args:List Ga}{w:Aa}{R:Ga→Aa→Prop}{Rp:List Da→Aa→Prop}{m:Nat}(hf:P.funcs[f]? = some fn)(hb:fn.body=some c)(hm:args.length+(fn.ntmps-args.length)=m)
 (σ0:List Ent) (hs:Sub σ0 (argsK 0 args)) (hh:SCD P none m [] c (TD P fn R Rp) [] (TD P fn R Rp) (ZD P fn R Rp) σ0 w):RetP P f args.toArray w R Rp:=by
 have h0:=hh { tmps:=args.toArray++Axa (fn.ntmps-args.toArray.size) undef,defers:=[] } (Kn.sub (σ:=argsK 0 args) ?_ hs);refine callsIn_wide.1 (callsIn_of_wp_marks (F:=Fence.wide) (n:=0) hf hb trivial (wpIn_mono (F:=Fence.wide) h0 (fun e a w q=>?_)));rotate_left
 ·refine ⟨by simp [← hm],rfl,fun t c' v hl=>?_⟩
  obtain ⟨rfl,_,h3⟩:=Xua args 0 t c' v hl;refine ⟨fun _=>?_,fun hn=>absurd trivial hn⟩;rw [Bka] at h3;have hlt:t<args.length:=(Aua.1 h3).1;simp [Bla,hlt,h3];simpa [hlt] using h3
 cases e with
  | normal=>exact q
  | ret=>exact q
  | exit id=>exact q.elim
  | goto l=>exact q.elim
  | panic ch=>exact q
  | outgrown=>exact q.elim
section
variable {P:Fa} {n:Nat} {fn:Func} {R:Ga→Aa→Prop} {Rp:List Da→Aa→Prop} {σ:List Ent} {w:Aa} {ds:List Deferred}
theorem Zrc(h:∀ a,Kn n σ a→bodyPost P fn (fun e w'=>∃ v,e = .returned v∧R v w') .ret a w):∀ a,Kn n σ a→TD P fn R Rp [] a w:=fun a ha=>by
 have h1:=h a ha;unfold bodyPost at h1;obtain ⟨hd,v,hr,v',e,hv⟩:=h1;injection e with e;subst e;exact ⟨_,hr,.inl ⟨_,rfl,hv⟩⟩
theorem Zsg{ch:List Da}(h:Rp ch w):∀ a,Kn n σ a→ZD P fn R Rp ch [] a w:=fun a ha=>.inr ⟨_,rfl,h⟩
@[reducible] def markD(db:Nat):Deferred:={ target:=.collected db,args:=#[] }
def RetB(P:Fa)(f:FuncId)(args:Array Ga)(w:Aa)(R:Ga→Aa→Prop):Prop :=
 ∃ fn c,P.funcs[f]? = some fn∧fn.body=some c∧c.wp P (bodyPost P fn (fun e w'=>∃ v,e = .returned v∧R v w')) { tmps:=args++Axa (fn.ntmps-args.size) undef,defers:=[] } w
theorem RetB.ret{P:Fa}{f:FuncId}{args:Array Ga}{w:Aa}{R:Ga→Aa→Prop}(h:RetB P f args w R):Ret P f args w R:=by
 obtain ⟨fn,c,hf,hb,h⟩:=h;exact calls_of_wp hf hb h
theorem RetB.mono{P:Fa}{f:FuncId}{args:Array Ga}{w:Aa}{R R':Ga→Aa→Prop}(h:RetB P f args w R)(hr:∀ v w',R v w'→R' v w'):RetB P f args w R':=by
 obtain ⟨fn,c,hf,hb,h⟩:=h;refine ⟨fn,c,hf,hb,wp_mono h fun e a w q=>?_⟩;unfold bodyPost at q ⊢
 split at q <;> first
  | (obtain ⟨q0,v,q1,v',q3,q4⟩:=q;exact ⟨q0,v,q1,v',q3,hr _ _ q4⟩)
  | (obtain ⟨q1,v',q3,q4⟩:=q;exact ⟨q1,v',q3,hr _ _ q4⟩)
  | (obtain ⟨v',q3,q4⟩:=q;exact ⟨v',q3,hr _ _ q4⟩)
  | exact q.elim
theorem Wuc{f:FuncId}{fn:Func}{c:Code}{args:List Ga}{R:Ga→Aa→Prop}{m:Nat}(hf:P.funcs[f]? = some fn)(hb:fn.body=some c)(hm:args.length+(fn.ntmps-args.length)=m)
 (σ0:List Ent) (hs:Sub σ0 (argsK 0 args))
 (hh:SC P m c (fun a w=>bodyPost P fn (fun e w'=>∃ v,e = .returned v∧R v w') .normal a w) [] (fun a w=>bodyPost P fn (fun e w'=>∃ v,e = .returned v∧R v w') .ret a w)
 σ0 w):RetB P f args.toArray w R:=by
 refine ⟨fn,c,hf,hb,(Code.wp_mono (fun e a w q=>?_) (hh _ (Kn.sub (σ:=argsK 0 args) ?_ hs)))⟩
 cases e with
 | normal=>exact q
 | ret=>exact q
 | panic ch=>exact q.2.elim
 | _=>exact q.elim
 refine ⟨by simp [← hm],rfl,fun t c' v hl=>?_⟩;obtain ⟨rfl,_,h3⟩:=Xua args 0 t c' v hl;refine ⟨fun _=>?_,fun hn=>absurd trivial hn⟩;rw [Bka] at h3;have hlt:t<args.length:=(Aua.1 h3).1;simp [Bla,hlt,h3];simpa [hlt] using h3
theorem Xac{f:FuncId}{args:Array Ga}{u:FrameMode}{w:Aa}{R:Ga→Aa→Prop}(h:RetB P f args w R):CallsDIn Fence.wide (0-1) P f args u w fun e u' w'=>u'=u∧∃ v,e = .returned v∧R v w':=by
 obtain ⟨fn,c,hf,hb,h⟩:=h;exact callsDIn_of_wp hf hb trivial (wpIn_wide.2 h)
@[reducible] def fnD(f:Nat)(cs args:Array Ga):Deferred:={ target:=.fn (.func f) cs,args:=args }
theorem Ybd{f:Nat}{cs args:Array Ga}{R':Ga→Aa→Prop}(hgo:goFn P f=true)(hC:RetB P f (args++cs) w R')(h:∀ v w',R' v w'→∀ a,Kn n σ a→TD P fn R Rp ds a w'):∀ a,Kn n σ a→TD P fn R Rp (fnD f cs args::ds) a w:=fun a ha=>by
 refine ⟨by simp,.inr ⟨(fun h=>by cases h),.func f,cs,f,args++cs,rfl,Yxb hgo _ _,fun _ _=>trivial,?_⟩⟩;have h1:=Xac (u:=.returning) hC;refine ⟨h1.1,fun c cs' hu hr=>?_⟩;obtain ⟨e,u',w',fr,⟨rfl,v,rfl,hv⟩,h2⟩:=h1.2 c cs' hu hr;refine ⟨.returned v,_,w',fr,?_,h2⟩;show LeavesInM _ _ _ _ _ _ _ (settle .returning) _;exact h v w' hv a ha
theorem Vff{f:Nat}{cs args:Array Ga}{ch:List Da}{R':Ga→Aa→Prop}(hgo:goFn P f=true)(hs:settle (.panicking ch) = .panicking ch)(hC:RetB P f (args++cs) w R')(h:∀ v w',R' v w'→∀ a,Kn n σ a→ZD P fn R Rp ch ds a w'):∀ a,Kn n σ a→ZD P fn R Rp ch (fnD f cs args::ds) a w:=fun a ha=>by
 refine ⟨by simp,.inr ⟨(fun h=>by cases h),.func f,cs,f,args++cs,rfl,Yxb hgo _ _,fun _ _=>trivial,?_⟩⟩;have h1:=Xac (u:=.panicking ch) hC;refine ⟨h1.1,fun c cs' hu hr=>?_⟩;obtain ⟨e,u',w',fr,⟨rfl,v,rfl,hv⟩,h2⟩:=h1.2 c cs' hu hr;refine ⟨.returned v,_,w',fr,?_,h2⟩;show LeavesInM _ _ _ _ _ _ _ (settle (.panicking ch)) _;rw [hs];exact h v w' hv a ha
end
theorem RS.mono{P:Fa}{Z:List Da→Act→Aa→Prop}{ops:Array Oper}{cl:Nat→Nat}{lv:Nat→Bool}{W0:Aa}{K K':Act→Aa→Prop}(hK:∀ a w,K a w→K' a w):∀ (L:List Nat) (a:Act) (w:Aa),RS P Z ops cl lv W0 K L a w→RS P Z ops cl lv W0 K' L a w
 | [],a,w,h=>hK _ _ h
 | i::rest,a,w,⟨o,ho,hb⟩=>by
  refine ⟨o,ho,?_⟩;by_cases hc:cl i=0∨cl i=3;rw [if_pos hc] at hb ⊢;obtain ⟨v,h1,h2,h3⟩:=hb;exact ⟨v,h1,h2,RS.mono hK rest _ _ h3⟩;rw [if_neg hc] at hb ⊢;by_cases hw:Ha o (yielded ops a.tmps)=true;rw [if_pos hw] at hb ⊢;exact hb.turn rfl (fun _ _ h=>h) fun v w' _ hk=>RS.mono hK rest _ _ hk;rw [if_neg hw] at hb ⊢;exact RS.mono hK rest _ _ hb
/-! the operation that defers a call, last in its region -/
def RunD(P:Fa)(n:Nat)(σ:List Ent)(w:Aa)(op:Op)(ty:Ba)(d:Deferred):Prop :=
 ∀ (dst:Option Tmp) (pos:String) (after:Array Edge) (g:Option (Nat×Bool)) (a:Act),Kn n σ a→(execOp a.eval ⟨dst,op,ty,pos,after,g⟩).run P w = .ok (.defer d) w
theorem Wvc{P:Fa}{n:Nat}{σ:List Ent}{w:Aa}{x:Ea}{f:Nat}{cs:Array Ga}{xs:List Ea}{vs:List Ga}{ats:Array Ba}{ty:Ba}(h:Ev n σ True x (.func (.func f) #[] cs))(hx:Yta n σ True xs vs) :
 RunD P n σ w (.defer { callee:=.value x,args:=xs.toArray,argTypes:=ats }) ty (fnD f cs vs.toArray):=fun dst pos after g a hk=>by
 have h2:xs.toArray.map a.eval=vs.toArray:=by rw [Bga,hx a hk trivial]
 simp [execOp,resolve,h a hk trivial,h2,Deferred.ofValue,fnD]
def KDef(P:Fa)(o:Oper)(N:DPost)(ds:List Deferred)(a:Act)(w:Aa):Prop:=∃ d,(execOp a.eval o).run P w = .ok (.defer d) w∧N (d::ds) (a.put o.dst undef) w
theorem Ycd{P:Fa}{n:Nat}{σ:List Ent}{w:Aa}{op:Op}{ty:Ba}{pos:String}{after:Array Edge}{d:Deferred}{N:DPost}{ds:List Deferred}(hr:RunD P n σ w op ty d)(h:∀ a,Kn n σ a→N (d::ds) a w):∀ a,Kn n σ a→KDef P ⟨none,op,ty,pos,after,none⟩ N ds a w:=fun a ha =>
 ⟨d,hr _ _ _ _ a ha,h a ha⟩
theorem Yya{P:Fa}{F:Fence}{n:Nat}{ops:Array Oper}{Q:Exit→Act→Aa→Prop}{L2:List Nat}:∀ (L1:List Nat) (a:Act) (w:Aa),wpOpsIn F n P ops (Exit.then (fun a w=>wpOpsIn F n P ops Q L2 a w) Q) L1 a w→wpOpsIn F n P ops Q (L1++L2) a w
 | [],a,w,h=>h
 | i::L1,a,w,h=>by
  have e:=wpOpsIn_cons (F:=F) (n:=n) (P:=P) (ops:=ops) (Q:=Q) i (L1++L2) a w;rw [List.cons_append,e];have e1:=wpOpsIn_cons (F:=F) (n:=n) (P:=P) (ops:=ops) (Q:=Exit.then (fun a w=>wpOpsIn F n P ops Q L2 a w) Q) i L1 a w;rw [e1] at h;unfold wpOpIn at h ⊢
  cases ho:ops[i]? with
  | none=>simp only [ho] at h ⊢;exact Yya L1 _ _ h
  | some o =>
   simp only [ho] at h ⊢;by_cases hw:Ha o (yielded ops a.tmps)=true;rw [if_pos hw] at h ⊢;refine ⟨h.1,?_⟩;have h2:=h.2;generalize (o.semAt F.round a.eval).run P w=r at *
   cases r with
   | ok x w' =>
    cases x <;> simp only [Oper.uponIn,LetsOut] at h2 ⊢ <;>
     first
      | exact Yya L1 _ _ h2
      | exact ⟨h2.1,CallsIn.mono h2.2 (fun e w'' he=>by cases e <;> first|exact Yya L1 _ _ he|exact he)⟩
      | exact ⟨h2.1,RowsIn.mono h2.2 (fun _ _ he=>Yya L1 _ _ he)⟩
      | exact ⟨h2.1,RoundIn.mono h2.2 (fun e w'' he=>by cases e <;> first|exact Yya L1 _ _ he|exact he)⟩
      | exact h2
   | halt x w'=>cases x <;> simp only [Oper.uponIn] at h2 ⊢ <;> exact h2
   rw [if_neg hw] at h ⊢;exact ⟨h.1,Yya L1 _ _ h.2⟩
section
variable {P:Fa} {n:Nat} {ds:List Deferred} {N T:DPost} {X:List (Nat×DPost)} {Z:List Da→DPost} {σ:List Ent} {w:Aa}
theorem Qha{id k:Nat}{l:List Oper}{o:Oper}(cl:List Nat)(hk:Aaa l.length (k+1)=true)(ho:l[k]? = some o)(hg:o.guard=none)
 (h:SR P (fun ch a w=>Z ch ds a w) l cl [] w n (KDef P o N ds) 0 (l.take k) σ w):SCD P none n ds (.region id l.toArray false) N X T Z σ w:=fun a ha=>by
 have hk:=Ada hk
 have h1:=h (fun j o' ho'=>by
  rw [Bsa] at ho';split at ho';simpa using ho';cases ho') a ha
 have e:lvOf []=fun _=>true:=by funext i;simp [lvOf]
 rw [e] at h1;have h2:=RS.wd (Z:=Z) (N:=fun ds a w=>KDef P o N ds a w) ds _ a w ha.2.1 h1;refine wpIn_region ?_
 have hL:Aea l.toArray.size=List.range' 0 (l.take k).length++[k]:=by
  rw [Bba,Nat.min_eq_left O,Bda,hk,List.range_succ,List.range_eq_range']
 rw [hL];refine Yya _ _ _ (Xsa (ρ:=none) (cl:=clOf cl) (W0:=w) (Z:=fun ch=>onD (Z ch)) (fun ch a w h=>h) _ _ _ ?_);refine RS.mono (fun a' w' hq=>?_) _ _ _ h2;obtain ⟨d,hr,hn⟩:=hq;have hw:Ha o (yielded l.toArray a'.tmps)=true:=by unfold Ha;rw [hg]
 show wpOpsIn (WF none) 0 P l.toArray (QofD N X T Z) [k] a' w';unfold wpOpsIn;simp only [Cja,ho];rw [if_pos hw];refine ⟨fun _ _=>trivial,?_⟩;have hr:(execOp a'.eval o).run P w' = .ok (.defer d) w':=hr;rw [show Oper.semAt (WF none).round a'.eval o=execOp a'.eval o from rfl,hr];have e1:(({ a' with defers:=d::a'.defers }:Act).put o.dst undef).defers=d::a'.defers:=Jv _ _ _
 have e2:wd [] (({ a' with defers:=d::a'.defers }:Act).put o.dst undef)=(wd [] a').put o.dst undef:=by
  cases o.dst <;> rfl
 show N (({ a' with defers:=d::a'.defers }:Act).put o.dst undef).defers (wd [] (({ a' with defers:=d::a'.defers }:Act).put o.dst undef)) w';rw [e1,e2];exact hn
end
section
variable {P:Fa} {B:List Da→Aa→Prop} {ops:List Oper} {cl:List Nat} {lv:List Bool} {W0:Aa} {n:Nat} {K:Act→Aa→Prop} {k:Nat} {rest:List Oper} {σ:List Ent} {w:Aa} {d:Nat} {op:Op} {ty:Ba} {pos:String} {after:Array Edge} {v:Ga}
theorem Jya{f:FuncId}{args:Array Ga}{R:Ga→Aa→Prop}{Rp:List Da→Aa→Prop}(hb:(!Aaa (clOf cl k) 0 && !Aaa (clOf cl k) 3&&Aba d n)=true)(hr:RunC P n σ True w op ty f args)(hC:RetP P f args w R Rp)
  (hz:∀ ch w',Rp ch w'→B ch w') (h:∀ v w',R v w'→(clOf cl k=1→G w w')∧SR P (ZA B) ops cl lv W0 n K (k+1) rest ((d,True,v) :: σ) w') :
  SR P (ZA B) ops cl lv W0 n K k (⟨some d,op,ty,pos,after,none⟩::rest) σ w:=Zva hb hr hC (fun ch w' hp a ha=>⟨ha.2.1,hz ch w' hp⟩) h
end
theorem Vi{P:Fa}{f:FuncId}{fn:Func}{c:Code}{args:List Ga}{w:Aa}{R:Ga→Aa→Prop}{B:List Da→Aa→Prop}{m:Nat}(hf:P.funcs[f]? = some fn)(hb:fn.body=some c)(hm:args.length+(fn.ntmps-args.length)=m)
 (σ0:List Ent) (hs:Sub σ0 (argsK 0 args))
 (hh:SZ P B m c (fun a w=>bodyPost P fn (fun e w'=>∃ v,e = .returned v∧R v w') .normal a w) [] (fun a w=>bodyPost P fn (fun e w'=>∃ v,e = .returned v∧R v w') .ret a w) σ0 w):RetP P f args.toArray w R B:=by
 refine calls_of_wp hf hb (Code.wp_mono (fun e a w q=>?_) (hh.h _ (Kn.sub (σ:=argsK 0 args) ?_ hs)))
 cases e with
 | normal=>obtain ⟨h1,v,h2,h3⟩:=q;exact ⟨h1,v,h2,.inl h3⟩
 | ret=>obtain ⟨h1,v,h2,h3⟩:=q;exact ⟨h1,v,h2,.inl h3⟩
 | panic ch=>exact ⟨q.1,.inr ⟨ch,rfl,q.2⟩⟩
 | _=>exact q.elim
 refine ⟨by simp [← hm],rfl,fun t c' v hl=>?_⟩;obtain ⟨rfl,_,h3⟩:=Xua args 0 t c' v hl;refine ⟨fun _=>?_,fun hn=>absurd trivial hn⟩;rw [Bka] at h3;have hlt:t<args.length:=(Aua.1 h3).1;simp [Bla,hlt,h3];simpa [hlt] using h3
def KPan(P:Fa)(B:List Da→Aa→Prop)(o:Oper)(a:Act)(w:Aa):Prop:=∃ v,(execOp a.eval o).run P w = .halt (.panic v) w∧a.defers=[]∧B [⟨v,false,false⟩] w
theorem Qec{P:Fa}{B:List Da→Aa→Prop}{n:Nat}{N T:Act→Aa→Prop}{X:List (Nat×(Act→Aa→Prop))}{σ:List Ent}{w:Aa}{id k:Nat}{l:List Oper}{o:Oper}(cl:List Nat)(hk:Aaa l.length (k+1)=true)(ho:l[k]? = some o)(hg:o.guard=none)
 (h:SR P (ZA B) l cl [] w n (KPan P B o) 0 (l.take k) σ w):SZ P B n (.region id l.toArray false) N X T σ w:=.mk fun a ha=>by
 have hk:=Ada hk
 have h1:=h (fun j o' ho'=>by
  rw [Bsa] at ho';split at ho';simpa using ho';cases ho') a ha
 have e:lvOf []=fun _=>true:=by funext i;simp [lvOf]
 rw [e] at h1;refine (wpIn_wide (P:=P)).1 (wpIn_region (F:=Fence.wide) (n:=0) ?_)
 have hL:Aea l.toArray.size=List.range' 0 (l.take k).length++[k]:=by
  rw [Bba,Nat.min_eq_left O,Bda,hk,List.range_succ,List.range_eq_range']
 rw [hL];refine Yya _ _ _ (Xsa (ρ:=none) (cl:=clOf cl) (W0:=w) (Z:=ZA B) (fun ch a w h=>h) _ _ _ ?_);refine RS.mono (fun a' w' hq=>?_) _ _ _ h1;obtain ⟨v,hr,hd,hb⟩:=hq;have hw:Ha o (yielded l.toArray a'.tmps)=true:=by unfold Ha;rw [hg]
 show wpOpsIn Fence.wide 0 P l.toArray (Qof N X T B) [k] a' w';unfold wpOpsIn;simp only [Cja,ho];rw [if_pos hw];refine ⟨fun _ _=>trivial,?_⟩;rw [show Oper.semAt Fence.wide.round a'.eval o=execOp a'.eval o from rfl,hr];exact ⟨hd,hb⟩
theorem Vgf{P:Fa}{B:List Da→Aa→Prop}{n:Nat}{σ:List Ent}{w:Aa}{x:Ea}{t:Ba}{u:Ga}{ty:Ba}{pos:String}{after:Array Edge}(hx:Ev n σ True x (.iface t u))(hB:B [⟨.iface t u,false,false⟩] w) :
 ∀ a,Kn n σ a→KPan P B ⟨none,.panic x,ty,pos,after,none⟩ a w:=fun a ha=>by
 refine ⟨.iface t u,?_,ha.2.1,hB⟩;simp [execOp,hx a ha trivial,Instr.panic,goPanic]
end Go.Rk
