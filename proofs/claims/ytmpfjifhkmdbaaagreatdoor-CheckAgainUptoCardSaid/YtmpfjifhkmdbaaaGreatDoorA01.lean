/- Merged texts of one road: Eng, Sym, Run, Mem, More, EngT, Str, Enq, Nest, Facts, EngD, EngR, Pan. Conditions: each text's own. -/
import Derived.Orders
import Derived.Below
import Derived.LoopTactic
import Derived.CallsIn
import Derived.OrdersIn
import Derived.DefersIn
import Derived.RangeFuncRecord
import Derived.RangeFuncLeaves
import Derived.WalkKit
import Derived.WalkSpells
import Derived.WalkLawsBesides
import Derived.Maps.AppendAt
import Derived.Laws.StructEq
import Derived.Stop.IfaceNil
import Derived.Laws.Pointers
import Derived.Lib.Builder
import Derived.Lib.AppendStr
import Derived.Lib.UnsafeStr
import Derived.Laws.Externs
import Derived.Test.YtmpfjifhkmdbaaaGreatDoorProg
import Derived.KernelRfl
import Derived.RangeFuncOwn
set_option linter.unusedSimpArgs false
set_option linter.unusedVariables false
set_option maxHeartbeats 16000000
set_option maxRecDepth 100000
open Array renaming getElem?_eq_some_iff→Ana,getElem?_eq_getElem→Ara,replicate→Axa,mem_toList_iff→Bea,mapM_eq_mapM_toList→Bia,getElem?_append→Bla,toArray_toList→Bwa
open Bool renaming and_eq_true→Aca,or_eq_true→Aqa,false_or→Bra,eq_iff_iff→Bta,or_eq_false_iff→Cia
open List renaming range→Aea,length_cons→Afa,mem_cons_self→Aga,all_eq_true→Aia,range'_succ→Aka,mem_cons_of_mem→Ama,mem_cons→Aoa,pairwise_cons→Apa,mem_singleton→Asa,length_append→Ata,getElem?_eq_some_iff→Ava,mem_of_mem_erase→Awa,map_cons→Aza,append_assoc→Baa,length_take→Bba,length_erase_of_mem→Bca,size_toArray→Bda,map_toArray→Bga,mapM_cons→Bha,append_nil→Bma,getD_eq_getElem?_getD→Bqa,getElem?_take→Bsa,take_of_length_le→Bua,nil_append→Bxa,nodup_cons→Bya,erase_cons_tail→Bza,eq_nil_of_length_eq_zero→Caa,eq_nil_iff_forall_not_mem→Cba,getElem?_eq_none→Cca,take_set_of_le→Cda,drop_set_of_lt→Cea,singleton_append→Cga,length_eq_one_iff→Cha,getElem?_toArray→Cja
open Nat renaming beq→Aaa,blt→Aba,eq_of_beq_eq_true→Ada,le_of_ble_eq_true→Aha,ble→Aja,le_refl→Ala,beq_refl→Bfa,add_mul→Bja,sub_zero→Bka,ne_of_lt→Bna,lt_or_ge→Boa,add_assoc→Bpa,zero_add→Bva,ble_eq_true_of_le→Cfa
open Option renaming map_some→Aua,map_none→Aya
namespace Go.Proofs
end Go.Proofs
namespace Go.Rk
open Go.Proofs
open Go Go.RowKit
theorem O {p : Prop} (h : p := by omega) : p := h
theorem KR {p : Prop} (h : p := by kernel_rfl) : p := h
theorem Od {p : Prop} (h : p := by decide) : p := h
theorem Os {p : Prop} (h : p := by simp) : p := h
theorem Oi {p : Prop} (h : p := by first | exact .inl (by omega) | exact .inr (by simp)) : p := h
theorem Oj {p : Prop} (h : p := by intro j hj; simp at hj ⊢; omega) : p := h
theorem Ok {p : Prop} (h : p := by intro j hj; simp at hj ⊢ <;> omega) : p := h
theorem Vpg{α:Type}{x y:List α}:(x++y).length=x.length+y.length:=Ata
theorem Vqg{α:Type}{a:α}{x:List α}:(a::x).length=x.length+1:=rfl
theorem Vrg{α:Type}:([]:List α).length=0:=rfl
theorem Vsg{α:Type}{x:List α}{y:List (List α)}:(x::y).flatten=x++y.flatten:=rfl
theorem Vtg{α:Type}:([]:List (List α)).flatten=[]:=rfl
theorem Vug{α:Type}(x:List α):x++[]=x:=Bma x
theorem Vvg{α:Type}{a:α}{n:Nat}:(List.replicate n a).length=n:=List.length_replicate
theorem J{α:Sort _}{a:α}:a=a:=rfl
theorem Vwg{p:Prop}[Decidable p](h:¬ p):decide p=false:=decide_eq_false h
theorem Vxg{p:Prop}[Decidable p](h:p):decide p=true:=decide_eq_true h
theorem Vyg{a b:Bool}(h:a=b):Value.bool a=Value.bool b:=congrArg Value.bool h
def G(w w':World):Prop:=Below w.heap.size w w'
theorem G.refl(w:World):G w w:=Below.refl _ _
theorem G.trans{a b c:World}(h:G a b)(k:G b c):G a c:=Below.trans h (Below.mono k h.size)
theorem G.drew(w:World):G w w.drew:=⟨rfl,rfl,rfl,Ala _,fun _ _=>rfl⟩
theorem G.size{a b:World}(h:G a b):a.heap.size≤b.heap.size:=Below.size h
theorem G.block{a b:World}(h:G a b){k:Nat}(hk:k<a.heap.size):b.heap[k]? = a.heap[k]?:=Below.block h k hk
def WF(ρ:Option Nat):Fence:={ Fence.wide with round:=ρ }
@[reducible] def NoP:List PanicEntry→Act→World→Prop:=fun _ _ _=>False
def Eff(P:Program)(Z:List PanicEntry→Act→World→Prop)(gr:Bool)(o:Oper)(a:Act)(w:World)(next:Act→World→Prop):Prop :=
 (∃ v w',(execOp a.eval o).run P w = .ok (.value v) w'∧(gr=true→G w w')∧next (a.put o.dst v) w')∨
 (∃ w',(execOp a.eval o).run P w = .ok .skip w'∧(gr=true→G w w')∧next (a.put o.dst undef) w')∨
 (∃ f args,(execOp a.eval o).run P w = .ok (.enter f args) w∧Calls P f args w fun e w'=>(∃ v,e = .returned v∧(gr=true→G w w')∧next (a.put o.dst v) w')∨(∃ ch,e = .panicked ch∧Z ch a w'))∨
 (∃ l f tmps asg body,(execOp a.eval o).run P w = .ok (.round l f tmps asg body) w∧RoundIn Fence.wide 0 P l f tmps asg body w fun e w'=>∃ v,e = .returned v∧(gr=true→G w w')∧next (a.put o.dst v) w')
theorem Xwe{P:Program}{ρ:Operand→Value}{o:Oper}{c:Call}(ho:o.op = .defer c){w w':World}{x:Next}(h:(execOp ρ o).run P w = .ok x w'):∃ d,x = .defer d:=by
 unfold execOp at h;rw [ho] at h;simp only [Sem.run_bind,Sem.run_pure] at h
 cases hr:(resolve ρ c o.type).run P w with
 | ok d w1=>rw [hr] at h;simp only [Result.andThen_ok] at h;injection h with h _;exact ⟨d,h.symm⟩
 | halt s w1=>rw [hr] at h;cases h
theorem Qya{P:Program}{ρ:Option Nat}{a:Act}{o:Oper}{w w':World}{x:Next}(h:(execOp a.eval o).run P w = .ok x w')(hd:∀ d,x≠.defer d):Oper.semAt ρ a.eval o=execOp a.eval o :=
 Oper.semAt_eq _ _ _ fun c hc=>by obtain ⟨d,e⟩:=Xwe hc h;exact hd d e
theorem Uvd{ρ:Option Nat}{n:Nat}{P:Program}{f:FuncId}{args:Array Value}{w:World}{R:Ending→World→Prop}(h:Calls P f args w R):CallsIn (WF ρ) n P f args w R:=callsIn_wide.2 h
theorem Eff.wpIn{P:Program}{Z:List PanicEntry→Act→World→Prop}{gr:Bool}{o:Oper}{a:Act}{w:World}{next:Act→World→Prop}{Q:Exit→Act→World→Prop}{ρ:Option Nat}
 (h:Eff P Z gr o a w next) (hZ:∀ ch w',Z ch a w'→Q (.panic ch) a w'):o.wpIn (WF ρ) 0 P a w next Q:=by
 refine ⟨fun _ _=>trivial,?_⟩;rcases h with ⟨v,w',hr,_,hn⟩|⟨w',hr,_,hn⟩|⟨f,args,hr,hc⟩|⟨l,f,tmps,asg,body,hr,hc⟩;rw [Qya hr (fun d h=>by cases h),hr];exact hn;rw [Qya hr (fun d h=>by cases h),hr];exact hn;rw [Qya hr (fun d h=>by cases h),hr];refine ⟨(fun h=>by cases h),Uvd (Calls.mono hc fun e w' h=>?_)⟩;rcases h with ⟨v,rfl,_,hn⟩|⟨ch,rfl,hz⟩;exact hn;exact hZ ch w' hz;rw [Qya hr (fun d h=>by cases h),hr];refine ⟨(fun h=>by cases h),(RoundIn.mono hc fun e w' h=>?_:RoundIn Fence.wide 0 P l f tmps asg body w _)⟩;obtain ⟨v,rfl,_,hn⟩:=h;exact hn
theorem Eff.some{P:Program}{Z:List PanicEntry→Act→World→Prop}{gr:Bool}{o:Oper}{a:Act}{w:World}{next:Act→World→Prop}(hZ:∀ ch a w,¬ Z ch a w)(h:Eff P Z gr o a w next) :
 ∃ v w',(gr=true→G w w')∧next (a.put o.dst v) w':=by
 rcases h with ⟨v,w',_,hg,hn⟩|⟨w',_,hg,hn⟩|⟨f,args,_,hc⟩|⟨l,f,tmps,asg,body,_,hc⟩;exact ⟨v,w',hg,hn⟩;exact ⟨undef,w',hg,hn⟩;obtain ⟨e,w',fr,h,_⟩:=hc [];rcases h with ⟨v,_,hg,hn⟩|⟨ch,_,hz⟩;exact ⟨v,w',hg,hn⟩;exact absurd hz (hZ _ _ _);obtain ⟨e,w',⟨v,_,hg,hn⟩,_⟩:=hc.2 default [] (room_wide _);exact ⟨v,w',hg,hn⟩
theorem Eff.turn{P:Program}{Z Z':List PanicEntry→Act→World→Prop}{gr:Bool}{o:Oper}{a b:Act}{w:World}{next next':Act→World→Prop}(he:execOp b.eval o=execOp a.eval o)
 (hz:∀ ch w',Z ch a w'→Z' ch b w')
 (hn:∀ v w',(gr=true→G w w')→next (a.put o.dst v) w'→next' (b.put o.dst v) w') (h:Eff P Z gr o a w next):Eff P Z' gr o b w next':=by
 rcases h with ⟨v,w',hr,hg,h1⟩|⟨w',hr,hg,h1⟩|⟨f,args,hr,hc⟩|⟨l,f,tmps,asg,body,hr,hc⟩;exact .inl ⟨v,w',by rw [he];exact hr,hg,hn _ _ hg h1⟩;exact .inr (.inl ⟨w',by rw [he];exact hr,hg,hn _ _ hg h1⟩);refine .inr (.inr (.inl ⟨f,args,by rw [he];exact hr,Calls.mono hc fun e w' h=>?_⟩));rcases h with ⟨v,e1,hg,h1⟩|⟨ch,e1,h1⟩;exact .inl ⟨v,e1,hg,hn _ _ hg h1⟩;exact .inr ⟨ch,e1,hz _ _ h1⟩;refine .inr (.inr (.inr ⟨l,f,tmps,asg,body,by rw [he];exact hr,RoundIn.mono hc fun e w' h=>?_⟩));obtain ⟨v,e1,hg,h1⟩:=h;exact ⟨v,e1,hg,hn _ _ hg h1⟩
section
variable (P:Program) (Z:List PanicEntry→Act→World→Prop) (ops:Array Oper) (cl:Nat→Nat) (lv:Nat→Bool) (W0:World) (K:Act→World→Prop)
def Gd(cl:Nat→Nat)(lv:Nat→Bool)(W0:World)(i:Nat)(w w1:World):Prop:=cl i=3∨G (if lv i=true then w else W0) w1
def RS:List Nat→Act→World→Prop
 | [],a,w=>K a w
 | i::rest,a,w =>
  ∃ o,ops[i]? = some o∧
  if cl i=0∨cl i=3 then
   ∃ v,(Region.wanted o (yielded ops a.tmps)=true→∀ w1,Gd cl lv W0 i w w1→(execOp a.eval o).run P w1 = .ok (.value v) w1)∧
    (Region.wanted o (yielded ops a.tmps)=false→v=undef)∧RS rest (a.put o.dst v) w
  else if Region.wanted o (yielded ops a.tmps)=true then Eff P Z (cl i == 1) o a w (fun a' w'=>RS rest a' w')
  else RS rest (a.put o.dst undef) w
end
section
variable {P:Program} {Z:List PanicEntry→Act→World→Prop} {ops:Array Oper} {cl:Nat→Nat} {lv:Nat→Bool} {wt:Nat→Nat→Bool} {W0:World} {K:Act→World→Prop}
structure Okay (ops:Array Oper) (cl:Nat→Nat) (lv:Nat→Bool) (wt:Nat→Nat→Bool):Prop where
  sel:∀ (j:Nat) (o:Oper) cs b,ops[j]? = some o→o.op≠.select cs b
  way:∀ (j:Nat) (o:Oper) (i:Nat),ops[j]? = some o→wt j i=true→∃ e,e∈o.after∧Region.binds .any e=true∧(e.on=i∨wt e.on i=true)
  lt:∀ (j:Nat) (o:Oper) (e:Edge),ops[j]? = some o→e∈o.after→Region.binds .any e=true→e.on<j
  pair:∀ (i j:Nat) (oi oj:Oper),i<j→ops[i]? = some oi→ops[j]? = some oj→wt j i=false→oi.apart ops oj=true∧(cl i=3∨cl j=3∨(cl i=0∨cl j=0)∧cl i≠2∧cl j≠2)
  cls:∀ i,cl i≤3
  fresh:∀ (i j:Nat),i<j→j<ops.size→cl j=0→lv j=true→cl i≠0→cl i≠3→wt j i=true
  stale:∀ (i j:Nat),i<j→j<ops.size→cl j=0→lv j=false→cl i≠2
theorem Uqe(hZ:∀ ch a w,¬ Z ch a w)(ok:Okay ops cl lv wt){j:Nat}{oj:Oper}(hj:ops[j]? = some oj)(hcj:cl j=0∨cl j=3) :
 ∀ (L:List Nat) (a:Act) (w:World),L.Pairwise (· < ·)→j∈L→(∀ i∈L,i<j→wt j i=false)→RS P Z ops cl lv W0 K L a w→
 ∃ v,(Region.wanted oj (yielded ops a.tmps)=true→∀ w1,Gd cl lv W0 j w w1→(execOp a.eval oj).run P w1 = .ok (.value v) w1)∧
 (Region.wanted oj (yielded ops a.tmps)=false→v=undef)∧RS P Z ops cl lv W0 K (L.erase j) (a.put oj.dst v) w:=by
 intro L
 induction L with
 | nil=>intro a w _ hm;cases hm
 | cons i rest ih =>
  intro a w hs hm hr h;obtain ⟨oi,hoi,hb⟩:=h;by_cases hij:i=j;subst hij;obtain rfl:oi=oj:=Option.some.inj (hoi.symm.trans hj);rw [if_pos hcj] at hb;obtain ⟨v,h1,h2,h3⟩:=hb;exact ⟨v,h1,h2,by simpa using h3⟩
  have hmr:j∈rest:=by
   rcases Aoa.1 hm with h|h;exact absurd h.symm hij;exact h
  have hlt:i<j:=(Apa.1 hs).1 j hmr;have hrr:∀ k∈rest,k<j→wt j k=false:=fun k hk=>hr k (Ama _ hk);have hw:=hr i Aga hlt;obtain ⟨hap,hcc⟩:=ok.pair i j oi oj hlt hoi hj hw;obtain ⟨p1,p2,p3⟩:=Oper.apart_spec hap
  have he:(i::rest).erase j=i::rest.erase j:=by
   rw [Bza];simpa using hij
  have evj:∀ v,execOp (a.put oi.dst v).eval oj=execOp a.eval oj:=fun v=>execOp_put (ops:=ops) oj (fun cs b=>ok.sel j oj cs b hj) a oi.dst v p1;have waj:∀ v,Region.wanted oj (yielded ops (a.put oi.dst v).tmps)=Region.wanted oj (yielded ops a.tmps):=fun v=>wanted_put oj a oi.dst v p1;have evi:∀ v,execOp (a.put oj.dst v).eval oi=execOp a.eval oi:=fun v=>execOp_put (ops:=ops) oi (fun cs b=>ok.sel i oi cs b hoi) a oj.dst v p3;have wai:∀ v,Region.wanted oi (yielded ops (a.put oj.dst v).tmps)=Region.wanted oi (yielded ops a.tmps):=fun v=>wanted_put oi a oj.dst v p3;have com:∀ u v,(a.put oi.dst u).put oj.dst v=(a.put oj.dst v).put oi.dst u:=fun u v=>Act.put_comm a u v p2;by_cases hci:cl i=0∨cl i=3;rw [if_pos hci] at hb;obtain ⟨u,h1,h2,h3⟩:=hb;obtain ⟨v,k1,k2,k3⟩:=ih (a.put oi.dst u) w (Apa.1 hs).2 hmr hrr h3;rw [waj] at k1 k2;rw [evj] at k1;refine ⟨v,k1,k2,?_⟩;rw [he];refine ⟨oi,hoi,?_⟩;rw [if_pos hci];refine ⟨u,?_,?_,?_⟩;rw [wai,evi];exact h1;rw [wai];exact h2;rw [← com];exact k3;rw [if_neg hci] at hb;by_cases hwi:Region.wanted oi (yielded ops a.tmps)=true;rw [if_pos hwi] at hb
  have hgd:∀ w' w1,Gd cl lv W0 j w' w1↔(cl j=3∨G W0 w1):=by
   intro w' w1;unfold Gd;rcases hcj with hc|hc
   have hlj:lv j=false:=by
    cases hl:lv j with
    | false=>rfl
    | true =>
     have:=ok.fresh i j hlt (Ana.1 hj).1 hc hl (fun h=>hci (.inl h)) (fun h=>hci (.inr h));rw [this] at hw;cases hw
   rw [if_neg (by rw [hlj];simp)];simp [hc]
  have key:∀ u w',RS P Z ops cl lv W0 K rest (a.put oi.dst u) w'→∃ v,(Region.wanted oj (yielded ops a.tmps)=true→∀ w1,(cl j=3∨G W0 w1)→(execOp a.eval oj).run P w1 = .ok (.value v) w1)∧
    (Region.wanted oj (yielded ops a.tmps)=false→v=undef)∧RS P Z ops cl lv W0 K (rest.erase j) ((a.put oi.dst u).put oj.dst v) w':=by
   intro u w' h3
   obtain ⟨v,k1,k2,k3⟩:=ih (a.put oi.dst u) w' (Apa.1 hs).2 hmr hrr h3
   rw [waj] at k1 k2
   rw [evj] at k1
   exact ⟨v,fun hh w1 hg=>k1 hh w1 ((hgd _ _).2 hg),k2,k3⟩
  obtain ⟨u0,w0',_,hn0⟩:=hb.some hZ;obtain ⟨v,k1,k2,_⟩:=key u0 w0' hn0;refine ⟨v,fun hh w1 hg=>k1 hh w1 ((hgd _ _).1 hg),k2,?_⟩;rw [he];refine ⟨oi,hoi,?_⟩;rw [if_neg hci,wai,if_pos hwi];refine hb.turn (evi v) (fun ch w' h=>absurd h (hZ _ _ _)) fun u w' _ h3=>?_;obtain ⟨v',q1,q2,q3⟩:=key u w' h3
  have hv:v'=v:=by
   cases hwj:Region.wanted oj (yielded ops a.tmps) with
   | true =>
    have e1:=k1 hwj W0 (.inr (G.refl _));have e2:=q1 hwj W0 (.inr (G.refl _));rw [e1] at e2;injection e2 with e2 _;injection e2 with e2;exact e2.symm
   | false=>rw [k2 hwj,q2 hwj]
  subst hv;rw [← com];exact q3;rw [if_neg hwi] at hb;obtain ⟨v,k1,k2,k3⟩:=ih (a.put oi.dst undef) w (Apa.1 hs).2 hmr hrr hb;rw [waj] at k1 k2;rw [evj] at k1;refine ⟨v,k1,k2,?_⟩;rw [he];refine ⟨oi,hoi,?_⟩;rw [if_neg hci,wai,if_neg hwi,← com];exact k3
theorem Xxe(hZ:∀ ch a w,¬ Z ch a w)(ok:Okay ops cl lv wt){j:Nat}{oj:Oper}(hj:ops[j]? = some oj)(hcj:¬ (cl j=0∨cl j=3)) :
 ∀ (L:List Nat) (a:Act) (w:World),L.Pairwise (· < ·)→j∈L→(∀ i∈L,i<j→wt j i=false)→RS P Z ops cl lv W0 K L a w→
 if Region.wanted oj (yielded ops a.tmps)=true then Eff P Z (cl j == 1) oj a w (fun a' w'=>RS P Z ops cl lv W0 K (L.erase j) a' w')
 else RS P Z ops cl lv W0 K (L.erase j) (a.put oj.dst undef) w:=by
 intro L
 induction L with
 | nil=>intro a w _ hm;cases hm
 | cons i rest ih =>
  intro a w hs hm hr h;obtain ⟨oi,hoi,hb⟩:=h;by_cases hij:i=j;subst hij;obtain rfl:oi=oj:=Option.some.inj (hoi.symm.trans hj);rw [if_neg hcj] at hb;simpa using hb
  have hmr:j∈rest:=by
   rcases Aoa.1 hm with h|h;exact absurd h.symm hij;exact h
  have hlt:i<j:=(Apa.1 hs).1 j hmr;have hrr:∀ k∈rest,k<j→wt j k=false:=fun k hk=>hr k (Ama _ hk);have hw:=hr i Aga hlt;obtain ⟨hap,hcc⟩:=ok.pair i j oi oj hlt hoi hj hw
  have hci:cl i=3∨cl i=0∧cl j=1:=by
   have hle:=ok.cls j;rcases hcc with h|h|⟨h,_,h2⟩;exact .inl h;exact absurd (.inr h) hcj;rcases h with h|h;exact .inr ⟨h,O⟩;exact absurd (.inl h) hcj
  have hci':cl i=0∨cl i=3:=by
   rcases hci with h|h;exact .inr h;exact .inl h.1
  obtain ⟨p1,p2,p3⟩:=Oper.apart_spec hap
  have he:(i::rest).erase j=i::rest.erase j:=by
   rw [Bza];simpa using hij
  have evj:∀ v,execOp (a.put oi.dst v).eval oj=execOp a.eval oj:=fun v=>execOp_put (ops:=ops) oj (fun cs b=>ok.sel j oj cs b hj) a oi.dst v p1;have waj:∀ v,Region.wanted oj (yielded ops (a.put oi.dst v).tmps)=Region.wanted oj (yielded ops a.tmps):=fun v=>wanted_put oj a oi.dst v p1;have evi:∀ v,execOp (a.put oj.dst v).eval oi=execOp a.eval oi:=fun v=>execOp_put (ops:=ops) oi (fun cs b=>ok.sel i oi cs b hoi) a oj.dst v p3;have wai:∀ v,Region.wanted oi (yielded ops (a.put oj.dst v).tmps)=Region.wanted oi (yielded ops a.tmps):=fun v=>wanted_put oi a oj.dst v p3;have com:∀ u v,(a.put oi.dst u).put oj.dst v=(a.put oj.dst v).put oi.dst u:=fun u v=>Act.put_comm a u v p2;rw [if_pos hci'] at hb;obtain ⟨u,h1,h2,h3⟩:=hb;have k:=ih (a.put oi.dst u) w (Apa.1 hs).2 hmr hrr h3;rw [waj] at k
  have back:∀ x w',(cl j=1→G w w')→RS P Z ops cl lv W0 K (rest.erase j) ((a.put oi.dst u).put oj.dst x) w'→RS P Z ops cl lv W0 K ((i::rest).erase j) (a.put oj.dst x) w':=by
   intro x w' hg hk;rw [he];refine ⟨oi,hoi,?_⟩;rw [if_pos hci'];refine ⟨u,?_,?_,?_⟩;rw [wai,evi];intro hwi w1 hg1;refine h1 hwi w1 ?_;rcases hg1 with hg1|hg1;exact .inl hg1;rcases hci with hc|⟨_,hc⟩;exact .inl hc;refine .inr ?_;by_cases hl:lv i=true;rw [if_pos hl] at hg1 ⊢;exact (hg hc).trans hg1;rw [if_neg hl] at hg1 ⊢;exact hg1;rw [wai];exact h2;rw [← com];exact hk
  by_cases hwj:Region.wanted oj (yielded ops a.tmps)=true;rw [if_pos hwj] at k ⊢;refine k.turn (evj u).symm (fun ch w' h=>absurd h (hZ _ _ _)) fun x w' hg hk=>back x w' (fun h=>hg (by simp [h])) hk;rw [if_neg hwj] at k ⊢;exact back _ _ (fun _=>G.refl _) k
structure Left (ops:Array Oper) (L:List Nat) (listed:Array Bool):Prop where
  size:listed.size=ops.size
  sorted:L.Pairwise (· < ·)
  mem:∀ i,i∈L↔i<ops.size∧listed.getD i true=false
  closed:∀ j oj,ops[j]? = some oj→j∉L→∀ e∈oj.after,Region.binds .any e=true→e.on∉L
theorem Left.waits(ok:Okay ops cl lv wt){L:List Nat}{listed:Array Bool}(hL:Left ops L listed) :
 ∀ (n j:Nat) (oj:Oper),j≤n→ops[j]? = some oj→(∀ e∈oj.after,Region.binds .any e=true→e.on∉L)→∀ i∈L,wt j i=false:=by
 intro n
 induction n with
 | zero =>
  intro j oj hjn hj _ i _
  cases hw:wt j i with
  | false=>rfl
  | true =>
   obtain ⟨e,he,hb,_⟩:=ok.way j oj i hj hw;have:=ok.lt j oj e hj he hb;omega
 | succ n ih =>
  intro j oj hjn hj hall i hi
  cases hw:wt j i with
  | false=>rfl
  | true =>
   obtain ⟨e,he,hb,hh⟩:=ok.way j oj i hj hw;have hlt:=ok.lt j oj e hj he hb;have hnot:=hall e he hb;rcases hh with rfl|hh;exact absurd hi hnot;have hes:e.on<ops.size:=by have:=(Ana.1 hj).1;omega
   have hoe:ops[e.on]? = some ops[e.on]:=Ara hes;have:=ih e.on _ O hoe (hL.closed e.on _ hoe hnot) i hi;rw [this] at hh;cases hh
theorem Left.step{L:List Nat}{listed:Array Bool}(hL:Left ops L listed){j:Nat}{oj:Oper}(hj:ops[j]? = some oj)(hall:∀ e∈oj.after,Region.binds .any e=true→e.on∉L) :
 Left ops (L.erase j) (listed.setIfInBounds j true):=by
 have hjs:j<listed.size:=by rw [hL.size];exact (Ana.1 hj).1
 have nd:L.Nodup:=hL.sorted.imp (fun h=>Bna h);refine ⟨by simp [hL.size],hL.sorted.sublist List.erase_sublist,fun i=>?_,fun k ok' hk hkn e he hb=>?_⟩;rw [nd.mem_erase_iff,hL.mem];by_cases hij:i=j;subst hij;simp [hjs];rw [getD_set_ne true (fun h=>hij h.symm)];simp [hij];by_cases hkj:k=j;subst hkj;obtain rfl:ok'=oj:=Option.some.inj (hk.symm.trans hj);exact fun h=>hall e he hb (Awa h);have hkl:k∉L:=fun h=>hkn (nd.mem_erase_iff.2 ⟨hkj,h⟩);exact fun h=>hL.closed k ok' hk hkl e he hb (Awa h)
theorem Xye{ρ:Option Nat}(hZ:∀ ch a w,¬ Z ch a w)(ok:Okay ops cl lv wt){Q:Exit→Act→World→Prop}(hQ:∀ a w,K a w→Q .normal a w) :
 ∀ (n:Nat) (L:List Nat) (listed:Array Bool) (a:Act) (w:World),L.length=n→Left ops L listed→(∀ i∈L,cl i=0→lv i=false→G W0 w)→RS P Z ops cl lv W0 K L a w→
 wpAnyIn (WF ρ) 0 P .any ops Q n listed a w:=by
 intro n
 induction n with
 | zero =>
  intro L listed a w hn hL hG h;obtain rfl:L=[]:=Caa hn;refine ⟨?_,hQ _ _ h⟩;refine Cba.2 fun j hj=>?_;obtain ⟨h0,o,ho,_⟩:=mem_ready.1 hj;have:=(hL.mem j).2 ⟨(Ana.1 ho).1,h0⟩;cases this
 | succ n ih =>
  intro L listed a w hn hL hG h
  have inL:∀ j,j∈Region.ready .any ops listed→∃ oj,ops[j]? = some oj∧j∈L∧∀ e∈oj.after,Region.binds .any e=true→e.on∉L:=by
   intro j hj;obtain ⟨h0,oj,ho,hall⟩:=mem_ready.1 hj;have hjs:=(Ana.1 ho).1;refine ⟨oj,ho,(hL.mem j).2 ⟨hjs,h0⟩,fun e he hb hm=>?_⟩;have h1:=hall e he hb;obtain ⟨h2,h3⟩:=(hL.mem e.on).1 hm;have h4:e.on<listed.size:=by rw [hL.size];exact h2
   simp [h4] at h1 h3;rw [h1] at h3;cases h3
  refine ⟨fun h0=>?_,fun j hj=>?_⟩;exfalso
  match L,hn,hL,h with
  | i::rest,_,hL,h =>
   obtain ⟨oi,hoi,_⟩:=h;have him:=(hL.mem i).1 Aga
   have:i∈Region.ready .any ops listed:=by
    refine mem_ready.2 ⟨him.2,oi,hoi,fun e he hb=>?_⟩;have hlt:=ok.lt i oi e hoi he hb
    have hno:e.on∉i::rest:=by
     intro hm;rcases Aoa.1 hm with hm|hm;omega;have:=(Apa.1 hL.sorted).1 _ hm;omega
    have hes:e.on<listed.size:=by rw [hL.size];omega
    cases hl:listed.getD e.on true with
    | false=>exact absurd ((hL.mem e.on).2 ⟨by rw [← hL.size];exact hes,hl⟩) hno
    | true=>simpa [hes] using hl
   rw [h0] at this;cases this
  obtain ⟨oj,hoj,hjL,hall⟩:=inL j hj;have hws:∀ i∈L,wt j i=false:=hL.waits ok j j oj (Ala _) hoj hall;have hL':=hL.step hoj hall;have hlen:(L.erase j).length=n:=by rw [Bca hjL];omega
  have nd:L.Nodup:=hL.sorted.imp (fun h=>Bna h);unfold wpOpIn;simp only [hoj];by_cases hc:cl j=0∨cl j=3;obtain ⟨v,h1,h2,h3⟩:=Uqe hZ ok hoj hc L a w hL.sorted hjL (fun i hi _=>hws i hi) h;have hG':∀ i∈L.erase j,cl i=0→lv i=false→G W0 w:=fun i hi=>hG i (Awa hi);have hnext:=ih (L.erase j) _ (a.put oj.dst v) w hlen hL' hG' h3;by_cases hwj:Region.wanted oj (yielded ops a.tmps)=true;rw [if_pos hwj]
  have hr:=h1 hwj w (by
   rcases hc with hc|hc;refine .inr ?_;by_cases hl:lv j=true;rw [if_pos hl];exact G.refl _;rw [if_neg hl];exact hG j hjL hc (by simpa using hl);exact .inl hc)
  refine ⟨fun _ _=>trivial,?_⟩;rw [Qya hr (fun d h=>by cases h),hr];exact hnext;rw [if_neg hwj];have:=h2 (by simpa using hwj);subst this;exact ⟨fun _ _=>trivial,hnext⟩;have h1:=Xxe hZ ok hoj hc L a w hL.sorted hjL (fun i hi _=>hws i hi) h
  have hG':∀ w',(cl j=1→G w w')→∀ i∈L.erase j,cl i=0→lv i=false→G W0 w':=by
   intro w' hg i hi hci hl;obtain ⟨hij,hiL⟩:=nd.mem_erase_iff.1 hi;have his:=((hL.mem i).1 hiL).1;have hjs:=((hL.mem j).1 hjL).1
   have hc1:cl j=1:=by
    have hle:=ok.cls j
    have hne:cl j≠2:=by
     intro h2;rcases Boa i j with hlt|hge;have:=(ok.pair i j ops[i] oj hlt (Ara his) hoj (hws i hiL)).2;rcases this with h|h|h;omega;omega;exact h.2.2 h2;exact ok.stale j i O his hci hl h2
    omega
   exact (hG i hiL hci hl).trans (hg hc1)
  by_cases hwj:Region.wanted oj (yielded ops a.tmps)=true;rw [if_pos hwj] at h1 ⊢;refine Eff.wpIn (Z:=Z) (gr:=cl j == 1) ?_ (fun ch w' h=>absurd h (hZ _ _ _));refine h1.turn rfl (fun _ _ h=>h) fun v w' hg hk=>?_;exact ih (L.erase j) _ _ w' hlen hL' (hG' w' fun e=>hg (by simp [e])) hk;rw [if_neg hwj] at h1 ⊢;exact ⟨fun _ _=>trivial,ih (L.erase j) _ _ w hlen hL' (fun i hi=>hG i (Awa hi)) h1⟩
theorem Wmc(ops:Array Oper):Left ops (Aea ops.size) (Axa ops.size false):=by
 refine ⟨by simp,List.pairwise_lt_range,fun i=>?_,fun j oj hj hn=>?_⟩;rw [List.mem_range];constructor;intro h;exact ⟨h,by simp [h]⟩;exact fun h=>h.1;exact absurd (List.mem_range.2 (Ana.1 hj).1) hn
theorem Xze{ρ:Option Nat}(hZ:∀ ch a w,¬ Z ch a w)(ok:Okay ops cl lv wt){id:Nat}{Q:Exit→Act→World→Prop}{a:Act}{w:World}(hm:P.follows .mixedOrders=true)
 (h:RS P Z ops cl lv w.drew (fun a w=>Q .normal a w) (Aea ops.size) a w.drew):(Code.region id ops true).wpIn (WF ρ) 0 P Q a w:=by
 refine wpIn_region_any hm ?_;have:=Xye (Q:=Q) (ρ:=ρ) hZ ok (fun _ _ h=>h) (Aea ops.size).length (Aea ops.size) (Axa ops.size false) a w.drew rfl (Wmc ops) (fun _ _ _ _=>G.refl _) h;simpa using this
theorem Wzf(ok:Okay ops cl lv wt){id:Nat}{Q:Exit→Act→World→Prop}{a:Act}{w:World}(hm:P.follows .mixedOrders=true)
  (h:RS P NoP ops cl lv w.drew (fun a w=>Q .normal a w) (Aea ops.size) a w.drew):(Code.region id ops true).wp P Q a w :=
 wpIn_wide.1 (Xze (ρ:=none) (fun _ _ _ h=>h) ok hm h)
theorem Wya{ρ:Option Nat}{Q:Exit→Act→World→Prop}(hZ:∀ ch a w,Z ch a w→Q (.panic ch) a w):∀ (L:List Nat) (a:Act) (w:World),RS P Z ops cl (fun _=>true) W0 (fun a w=>Q .normal a w) L a w→wpOpsIn (WF ρ) 0 P ops Q L a w
 | [],_,_,h=>h
 | i::rest,a,w,h=>by
  obtain ⟨o,ho,hb⟩:=h;unfold wpOpsIn;simp only [ho];by_cases hw:Region.wanted o (yielded ops a.tmps)=true;rw [if_pos hw];by_cases hc:cl i=0∨cl i=3;rw [if_pos hc] at hb;obtain ⟨v,h1,_,h3⟩:=hb;have hr:=h1 hw w (.inr (by rw [if_pos rfl];exact G.refl _));refine ⟨fun _ _=>trivial,?_⟩;rw [Qya hr (fun d h=>by cases h),hr];exact Wya hZ rest _ _ h3;rw [if_neg hc,if_pos hw] at hb;exact Eff.wpIn (hb.turn rfl (fun _ _ h=>h) fun v w' _ hk=>Wya hZ rest _ _ hk) (fun ch w' h=>hZ _ _ _ h);rw [if_neg hw];refine ⟨fun _ _=>trivial,?_⟩;by_cases hc:cl i=0∨cl i=3;rw [if_pos hc] at hb;obtain ⟨v,_,h2,h3⟩:=hb;have:=h2 (by simpa using hw);subst this;exact Wya hZ rest _ _ h3;rw [if_neg hc,if_neg hw] at hb;exact Wya hZ rest _ _ hb
theorem Qrc{ρ:Option Nat}{id:Nat}{Q:Exit→Act→World→Prop}{a:Act}{w:World}(hZ:∀ ch a w,Z ch a w→Q (.panic ch) a w)(h:RS P Z ops cl (fun _=>true) W0 (fun a w=>Q .normal a w) (Aea ops.size) a w) :
  (Code.region id ops false).wpIn (WF ρ) 0 P Q a w:=wpIn_region (Wya hZ _ _ _ h)
end
/-! A look at the region's text, by reckoning. -/
def clOf(cl:List Nat)(i:Nat):Nat:=cl.getD i 0
def lvOf(lv:List Bool)(i:Nat):Bool:=lv.getD i true
def wtOf(ms:List Nat)(j i:Nat):Bool:=(ms.getD j 0).testBit i
def maskOf(ms:List Nat):List Edge→Nat
 | []=>0
 | e::r=>if Region.binds .any e=true then (2 ^ e.on) ||| (ms.getD e.on 0) ||| maskOf ms r else maskOf ms r
def Zme(o:Oper):Bool:=match o.op with | .select ..=>false|_=>true
def Zeb(ops:Array Oper)(cl:List Nat)(lv:List Bool)(ms:List Nat)(E:List (Nat×Oper×Nat))(k:Nat)(o:Oper):Bool :=
 Zme o&&Aja (clOf cl k) 3&&o.after.toList.all (fun e=>!Region.binds .any e || Aba e.on k)&&Aaa (ms.getD k 0) (maskOf ms o.after.toList) &&
 E.all (fun p=>(ms.getD k 0).testBit p.1 || (p.2.1.apart ops o&&(Aaa p.2.2 3 || Aaa (clOf cl k) 3 || (Aaa p.2.2 0 || Aaa (clOf cl k) 0) && !Aaa p.2.2 2 && !Aaa (clOf cl k) 2))) &&
 (!Aaa (clOf cl k) 0 || if lvOf lv k=true then E.all (fun p=>Aaa p.2.2 0 || Aaa p.2.2 3 || (ms.getD k 0).testBit p.1) else E.all (fun p=>!Aaa p.2.2 2))
def Qzb(ops:Array Oper)(cl:List Nat)(lv:List Bool)(ms:List Nat):List (Nat×Oper×Nat)→Nat→List Oper→Bool
 | _,_,[]=>true
 | E,k,o::rest=>Zeb ops cl lv ms E k o&&Qzb ops cl lv ms ((k,o,clOf cl k)::E) (k+1) rest
def okB(l:List Oper)(cl:List Nat)(lv:List Bool)(ms:List Nat):Bool :=
 Qzb l.toArray cl lv ms [] 0 l&&Aja cl.length l.length&&Aja ms.length l.length
theorem Vib(ms:List Nat)(i:Nat):∀ (l:List Edge),(maskOf ms l).testBit i=true→∃ e,e∈l∧Region.binds .any e=true∧(e.on=i∨wtOf ms e.on i=true)
 | [],h=>by simp [maskOf] at h
 | e::r,h=>by
  unfold maskOf at h;by_cases hb:Region.binds .any e=true;rw [if_pos hb,Nat.testBit_or,Nat.testBit_or,Aqa,Aqa] at h;rcases h with (h|h)|h;refine ⟨e,Aga,hb,.inl ?_⟩;rw [Nat.testBit_two_pow] at h;simpa using h;exact ⟨e,Aga,hb,.inr h⟩;obtain ⟨e',h1,h2⟩:=Vib ms i r h;exact ⟨e',Ama _ h1,h2⟩;rw [if_neg hb] at h;obtain ⟨e',h1,h2⟩:=Vib ms i r h;exact ⟨e',Ama _ h1,h2⟩
theorem Umb(ops:Array Oper)(cl:List Nat)(lv:List Bool)(ms:List Nat):∀ (l:List Oper) (E:List (Nat×Oper×Nat)) (k:Nat),
  (∀ j,l[j]? = ops[k+j]?)→(∀ i,i<k→∃ oi,ops[i]? = some oi∧(i,oi,clOf cl i)∈E)→Qzb ops cl lv ms E k l=true→
  ∀ j oj,k≤j→ops[j]? = some oj→∃ E',(∀ i,i<j→∃ oi,ops[i]? = some oi∧(i,oi,clOf cl i)∈E')∧Zeb ops cl lv ms E' j oj=true
 | [],_,k,hl,_,_=>by
  intro j oj hkj hj;have:=hl (j-k);rw [show k+(j-k)=j by omega,hj] at this;simp at this
 | o::rest,E,k,hl,hE,h=>by
  intro j oj hkj hj;unfold Qzb at h;rw [Aca] at h;have h0:ops[k]? = some o:=by simpa using (hl 0).symm
  by_cases hjk:j=k;subst hjk;obtain rfl:o=oj:=Option.some.inj (h0.symm.trans hj);exact ⟨E,hE,h.1⟩;refine Umb ops cl lv ms rest ((k,o,clOf cl k)::E) (k+1) (fun j=>by have:=hl (j+1);simpa [Bpa,Nat.add_comm 1 j] using this) ?_ h.2 j oj O hj;intro i hi;by_cases hik:i=k;subst hik;exact ⟨o,h0,Aga⟩;obtain ⟨oi,h1,h2⟩:=hE i O;exact ⟨oi,h1,Ama _ h2⟩
theorem Vaf{l:List Oper}{cl:List Nat}{lv:List Bool}{ms:List Nat}(h:okB l cl lv ms=true):Okay l.toArray (clOf cl) (lvOf lv) (wtOf ms):=by
 unfold okB at h;rw [Aca,Aca] at h;obtain ⟨⟨h,hcl⟩,hml⟩:=h;have S:=Umb l.toArray cl lv ms l [] 0 Os (fun i hi=>absurd hi O) h;have at_:∀ j oj,l.toArray[j]? = some oj→∃ E',(∀ i,i<j→∃ oi,l.toArray[i]? = some oi∧(i,oi,clOf cl i)∈E')∧Zeb l.toArray cl lv ms E' j oj=true:=fun j oj hj=>S j oj (Nat.zero_le _) hj
 have hsize:∀ j,l.toArray.size≤j→clOf cl j=0∧ms.getD j 0=0:=by
  intro j hj;have h1:=Aha hcl;have h2:=Aha hml;simp only [Bda] at hj;constructor;unfold clOf;rw [Bqa,Cca O];rfl;rw [Bqa,Cca O];rfl
 refine ⟨?_,?_,?_,?_,?_,?_,?_⟩;intro j o cs b hj heq;obtain ⟨E',_,hh⟩:=at_ j o hj;simp [Zeb,Zme,heq] at hh;intro j o i hj hw;obtain ⟨E',_,hh⟩:=at_ j o hj;simp only [Zeb,Aca] at hh;have hm:=Ada hh.1.1.2;unfold wtOf at hw;rw [hm] at hw;obtain ⟨e,h1,h2⟩:=Vib ms i _ hw;exact ⟨e,Bea.1 h1,h2⟩;intro j o e hj he hb;obtain ⟨E',_,hh⟩:=at_ j o hj;simp only [Zeb,Aca,Aia,Bea,Aqa,Bool.not_eq_true'] at hh;rcases hh.1.1.1.2 e he with h1|h1;rw [hb] at h1;cases h1;exact Aha h1;intro i j oi oj hij hi hj hw;obtain ⟨E',hE,hh⟩:=at_ j oj hj;simp only [Zeb,Aca,Aia,Aqa] at hh;obtain ⟨oi',h1,h2⟩:=hE i hij;obtain rfl:oi'=oi:=Option.some.inj (h1.symm.trans hi);rcases hh.1.2 _ h2 with h3|h3;unfold wtOf at hw;rw [h3] at hw;cases hw;obtain ⟨a1,h4⟩:=h3;refine ⟨a1,?_⟩;rcases h4 with (h4|h4)|h4;exact .inl (Ada h4);exact .inr (.inl (Ada h4));obtain ⟨⟨a2,a3⟩,a4⟩:=h4;refine .inr (.inr ⟨?_,?_,?_⟩);rcases a2 with a2|a2;exact .inl (Ada a2);exact .inr (Ada a2);intro h;dsimp only at a3;rw [h] at a3;simp at a3;intro h;rw [h] at a4;simp at a4;intro i;rcases Boa i l.toArray.size with hi|hi;obtain ⟨E',_,hh⟩:=at_ i _ (Ara hi);simp only [Zeb,Aca] at hh;exact Aha hh.1.1.1.1.2;rw [(hsize i hi).1];omega;intro i j hij hj hcj hl hc hc3;obtain ⟨E',hE,hh⟩:=at_ j _ (Ara hj);obtain ⟨oi,h1,h2⟩:=hE i hij;simp only [Zeb,Aca] at hh;have h3:=hh.2;rw [hcj,hl] at h3
 simp only [Bfa,Bool.not_true,Bra,if_true,Aia,Aqa] at h3;rcases h3 _ h2 with (h3|h3)|h3;exact absurd (Ada h3) hc;exact absurd (Ada h3) hc3;exact h3;intro i j hij hj hcj hl hc;obtain ⟨E',hE,hh⟩:=at_ j _ (Ara hj);obtain ⟨oi,h1,h2⟩:=hE i hij;simp only [Zeb,Aca] at hh;have h3:=hh.2;rw [hcj,hl] at h3;simp only [Bfa,Bool.not_true,Bra] at h3;rw [if_neg Os] at h3;have h4:=Aia.1 h3 _ h2;dsimp only at h4;rw [hc] at h4;simp at h4
abbrev Ent:=Nat×Prop×Value
def look:List Ent→Nat→Option (Prop×Value)
 | [],_=>none
 | (k,c,v)::r,t=>bif Aaa k t then some (c,v) else look r t
def Kn(n:Nat)(σ:List Ent)(a:Act):Prop :=
 a.tmps.size=n∧a.defers=[]∧∀ t c v,look σ t=some (c,v)→(c→a.tmps[t]? = some v)∧(¬ c→a.tmps[t]? = some undef)
def Ev(n:Nat)(σ:List Ent)(c:Prop)(x:Operand)(v:Value):Prop:=∀ a,Kn n σ a→c→a.eval x=v
theorem Yob(a:Act)(v:Value):a.eval (.const v)=v:=rfl
theorem Kn.at_{n:Nat}{σ:List Ent}{a:Act}(h:Kn n σ a){t:Nat}{c:Prop}{v:Value}(hl:look σ t=some (c,v))(hc:c):a.tmps[t]? = some v:=(h.2.2 t c v hl).1 hc
section
variable {n:Nat} {σ:List Ent} {c:Prop} {v:Value}
theorem Zc{t:Nat}(h:look σ t=some (True,v)):Ev n σ c (.tmp t) v:=fun a ha _=>by
 simp [Act.eval,ha.at_ h trivial]
theorem Yc{t:Nat}{c':Prop}(h:look σ t=some (c',v))(hc:c→c'):Ev n σ c (.tmp t) v:=fun a ha h1=>by
 simp [Act.eval,ha.at_ h (hc h1)]
theorem Xm:Ev n σ c (.const v) v:=fun _ _ _=>rfl
theorem Zfb{g:Nat}:Ev n σ c (.global g) (.pointer (some ⟨g,0,none⟩)):=fun _ _ _=>rfl
theorem Vt{f:Nat}:Ev n σ c (.func f) (.func (.func f) #[] #[]):=fun _ _ _=>rfl
theorem Ev.to{x:Operand}{v':Value}(h:Ev n σ c x v)(e:c→v=v'):Ev n σ c x v':=fun a ha hc=>(h a ha hc).trans (e hc)
end
theorem Kn.put{n:Nat}{σ:List Ent}{a:Act}(h:Kn n σ a){d:Nat}(hd:Aba d n=true){c:Prop}{v v':Value}(h1:c→v'=v)(h2:¬ c→v'=undef) :
 Kn n ((d,c,v) :: σ) (a.put (some d) v'):=by
 have hd':d<n:=Aha hd;refine ⟨by simp [Act.put,h.1],h.2.1,fun t c' u hl=>?_⟩;unfold look at hl;by_cases ht:d=t;subst ht;simp only [Bfa,cond_true] at hl;injection hl with hl;injection hl with e1 e2;subst e1;subst e2;have hs:d<a.tmps.size:=by rw [h.1];exact hd'
 simp only [Act.put];rw [Array.getElem?_setIfInBounds_self_of_lt hs];exact ⟨fun hc=>by rw [h1 hc],fun hc=>by rw [h2 hc]⟩
 have:Aaa d t=false:=by
  cases hb:Aaa d t with
  | false=>rfl
  | true=>exact absurd (Ada hb) ht
 rw [this] at hl;simp only [cond_false] at hl;simp only [Act.put];rw [Array.getElem?_setIfInBounds_ne ht];exact h.2.2 t c' u hl
def Sub(τ σ:List Ent):Prop:=∀ t c v,look τ t=some (c,v)→look σ t=some (c,v)
theorem Zn(σ:List Ent):Sub [] σ:=fun _ _ _ h=>by simp [look] at h
theorem Za{t:Nat}{c:Prop}{v:Value}{τ σ:List Ent}(h:look σ t=some (c,v))(k:Sub τ σ):Sub ((t,c,v) :: τ) σ:=fun u c' v' hl=>by
 unfold look at hl
 cases hb:Aaa t u with
 | true =>
  rw [hb] at hl;obtain rfl:=Ada hb;simp only [cond_true] at hl;injection hl with hl;injection hl with e1 e2;subst e1;subst e2;exact h
 | false=>rw [hb] at hl;exact k u c' v' hl
theorem Kn.sub{n:Nat}{τ σ:List Ent}{a:Act}(h:Kn n σ a)(k:Sub τ σ):Kn n τ a:=⟨h.1,h.2.1,fun t c v hl=>h.2.2 t c v (k t c v hl)⟩
/-! ## Operations that read -/
structure Rd (P:Program) (n:Nat) (σ:List Ent) (c:Prop) (wb:World) (op:Op) (ty:TypeId) (v:Value):Prop where mk ::
  h:∀ (d:Option Tmp) (pos:String) (after:Array Edge) (g:Option (Nat×Bool)) (a:Act),Kn n σ a→c→∀ w1,G wb w1→(execOp a.eval ⟨d,op,ty,pos,after,g⟩).run P w1 = .ok (.value v) w1
instance {P:Program} {n:Nat} {σ:List Ent} {c:Prop} {wb:World} {op:Op} {ty:TypeId} {v:Value}:CoeFun (Rd P n σ c wb op ty v) fun _=>∀ (d:Option Tmp) (pos:String) (after:Array Edge) (g:Option (Nat×Bool)) (a:Act),Kn n σ a→c→∀ w1,G wb w1→(execOp a.eval ⟨d,op,ty,pos,after,g⟩).run P w1 = .ok (.value v) w1:=⟨Rd.h⟩
def Up(P:Program)(t:TypeId):Bool:=match P.underlying t with|some (.struct _)=>false|some (.array _ _)=>false|some _=>true|none=>false
def Xqa(P:Program)(t:TypeId):Option Nat:=match P.underlying t,P.info? t with|some (.struct _),some i=>some i.size|some (.array _ _),some i=>some i.size|_,_=>none
def tySize(P:Program)(t:TypeId):Option Nat:=(P.info? t).map (·.size)
def tyElem(P:Program)(t:TypeId):Option (TypeId×Nat×Nat):=match P.underlying t with|some (.slice e)=>(P.info? e).map fun i=>(e,i.size,i.bytes)|_=>none
def Jab(P:Program)(t:TypeId):Bool:=match P.underlying t with|some .string=>true|_=>false
def Yu(P:Program)(s:TypeId)(k:Nat):Option Nat:=match P.underlying s with
 | some (.struct fs)=>match fs[k]? with
  | some f=>match P.info? f.type with
   | some i=>if i.size=0 then none else some f.offset
   | none=>none
  | none=>none
 | _=>none
def RowAt(w:World)(b o:Nat)(l:List Value):Prop:=∀ j v,l[j]? = some v→w.cell? ⟨b,o+j,none⟩=some v
theorem Zmb{w w1:World}(h:G w w1){a:Addr}{v:Value}(hc:w.cell? a=some v):w1.cell? a=some v:=(Below.cell h (World.block_lt_of_cell? w a hc)).trans hc
theorem RowAt.grow{w w1:World}{b o:Nat}{l:List Value}(h:RowAt w b o l)(hg:G w w1):RowAt w1 b o l:=fun j v hj=>Zmb hg (h j v hj)
theorem RowAt.part{w:World}{b o:Nat}{l:List Value}(h:RowAt w b o l)(i m:Nat):RowAt w b (o+i) ((l.drop i).take m):=fun j v hj=>by
 rw [Bsa] at hj;split at hj;rw [List.getElem?_drop] at hj;have:=h (i+j) v hj;rwa [← Bpa] at this;cases hj
theorem RowAt.one{w:World}{b o:Nat}{l:List Value}(h:RowAt w b o l){i:Nat}{v:Value}(hi:l[i]? = some v):w.cell? ⟨b,o+i,none⟩=some v:=h i v hi
section
variable {P:Program} {n:Nat} {σ:List Ent} {c:Prop} {wb:World} {ty:TypeId}
theorem Zl{x:Operand}{v:Value}(h:Ev n σ c x v):Rd P n σ c wb (.move x) ty v:=.mk fun d pos after g a ha hc w1 _=>by
 simp [execOp,h a ha hc]
theorem Wg{x:Operand}{v:Value}(h:Ev n σ c x v):Rd P n σ c wb (.assign x) ty v:=.mk fun d pos after g a ha hc w1 _=>by
 simp [execOp,h a ha hc]
theorem Xka{x:Operand}{b:Addr}(h:Ev n σ c x (.pointer (some b))):Rd P n σ c wb (.nilCheck x) ty (.pointer (some b)):=.mk fun d pos after g a ha hc w1 _=>by
 simp [execOp,h a ha hc]
theorem Wu{x y:Operand}{g y':Bool}(h:Ev n σ c x (.bool g))(h1:Ev n σ (c∧g=true) y (.bool y')):Rd P n σ c wb (.pick x y (.const (.bool false))) ty (.bool (g&&y')):=.mk fun d pos after gd a ha hc w1 _=>by
 cases g with
 | false=>simp [execOp,h a ha hc,asBool,Yob]
 | true=>simp [execOp,h a ha hc,asBool,h1 a ha ⟨hc,rfl⟩]
theorem Wh{x y:Operand}{g y':Bool}(h:Ev n σ c x (.bool g))(h1:Ev n σ (c∧g=false) y (.bool y')):Rd P n σ c wb (.pick x (.const (.bool true)) y) ty (.bool (g || y')):=.mk fun d pos after gd a ha hc w1 _=>by
 cases g with
 | true=>simp [execOp,h a ha hc,asBool,Yob]
 | false=>simp [execOp,h a ha hc,asBool,h1 a ha ⟨hc,rfl⟩]
theorem Zj{s k off b o:Nat}{x:Operand}(hf:Yu P s k=some off)(h:Ev n σ c x (.pointer (some ⟨b,o,none⟩))) :
 Rd P n σ c wb (.fieldAddr s x k) ty (.pointer (some ⟨b,o+off,none⟩)):=.mk fun d pos after gd a ha hc w1 _=>by
 unfold Yu at hf;split at hf;rename_i fs hs;split at hf;rename_i f hk;split at hf;rename_i i hi;split at hf;cases hf;rename_i hz;injection hf with hf;subst hf;simp [execOp,h a ha hc,Instr.fieldAt,run_underlying hs,hk,Instr.sureAddr,fieldPlace,sizeOf,typeInfo,hi,hz,Addr.add_lit];cases hf;cases hf;cases hf
theorem Xic{t:TypeId}(ht:Up P t=true){w:World}{ad:Addr}{v:Value}(hc:w.cell? ad=some v):(loadVar t ad).run P w = .ok v w:=by
 unfold Up at ht;split at ht <;> try (cases ht;done)
 rename_i d hd1 hd2 hd
 have:(isAgg t).run P w = .ok false w:=by
  simp only [isAgg,Sem.run_bind,run_underlying hd,Result.andThen_ok];rfl
 simp [loadVar,this,hc]
theorem Xjc{t:TypeId}{z:Nat}(ht:Xqa P t=some z){w:World}{b o:Nat}{l:List Value}(hl:l.length=z)(hc:RowAt w b o l) :
 (loadVar t ⟨b,o,none⟩).run P w = .ok (.agg l.toArray) w:=by
 have:(isAgg t).run P w = .ok true w∧(sizeOf t).run P w = .ok z w:=by
  unfold Xqa at ht;split at ht;rename_i fs i hs hi;injection ht with ht;constructor;simp only [isAgg,Sem.run_bind,run_underlying hs,Result.andThen_ok];rfl;simp [sizeOf,typeInfo,hi,ht];rename_i fs m i hs hi;injection ht with ht;constructor;simp only [isAgg,Sem.run_bind,run_underlying hs,Result.andThen_ok];rfl;simp [sizeOf,typeInfo,hi,ht];cases ht
 have hload:=run_loadCells_list (P:=P) (w:=w) ⟨b,o,none⟩ l (fun j v hj=>by rw [Addr.add_lit];exact hc j v hj);rw [hl] at hload;simp [loadVar,this.1,this.2,hload]
theorem Zw{t b o:Nat}{x:Operand}{v:Value}(ht:Up P t=true)(h:Ev n σ c x (.pointer (some ⟨b,o,none⟩)))(hc:c→wb.cell? ⟨b,o,none⟩=some v) :
 Rd P n σ c wb (.load t x) ty v:=.mk fun d pos after gd a ha hc' w1 hg=>by
 simp [execOp,h a ha hc',Instr.loadAt,Instr.sureAddr,Xic ht (Zmb hg (hc hc'))]
theorem Zt{t b o z:Nat}{x:Operand}{l:List Value}(ht:Xqa P t=some z)(h:Ev n σ c x (.pointer (some ⟨b,o,none⟩)))(hl:l.length=z)(hc:c→RowAt wb b o l) :
 Rd P n σ c wb (.load t x) ty (.agg l.toArray):=.mk fun d pos after gd a ha hc' w1 hg=>by
 simp [execOp,h a ha hc',Instr.loadAt,Instr.sureAddr,Xjc ht hl ((hc hc').grow hg)]
theorem Wza{x:Operand}{i:Nat}{vs:Array Value}{v:Value}(h:Ev n σ c x (.tuple vs))(hv:vs[i]? = some v):Rd P n σ c wb (.extract x i) ty v:=.mk fun d pos after gd a ha hc w1 _=>by
 simp [execOp,h a ha hc,Instr.extract,hv]
/-! integers -/
theorem Wnc{x:Int}(h : -9223372036854775808≤x∧x≤9223372036854775807):IntKind.i64.wrap x=x:=by
 rw [IntKind.wrap_i64];omega
theorem Xrb{op:BinOp}{t u:TypeId}{x y:Operand}{k:IntKind}{i j r:Int}(h:Ev n σ c x (.int k i))(h':Ev n σ c y (.int k j))
 (hr:c→Op.intArith op k i j=pure (.int k r)) (ho:op = .add∨op = .sub∨op = .mul):Rd P n σ c wb (.binOp op t x y u) ty (.int k r):=.mk fun d pos after gd a ha hc w1 _=>by
 rcases ho with rfl|rfl|rfl <;> simp [execOp,h a ha hc,h' a ha hc,eqGuard_at_int,binOp,hr hc]
theorem Qza{t u:TypeId}{x y:Operand}{i j:Int}(h:Ev n σ c x (.int .i64 i))(h':Ev n σ c y (.int .i64 j))(hr:c→-9223372036854775808≤i+j∧i+j≤9223372036854775807) :
  Rd P n σ c wb (.binOp .add t x y u) ty (.int .i64 (i+j)):=Xrb h h' (fun hc=>by simp [Op.intArith,Wnc (hr hc)]) (.inl rfl)
theorem Xla{t u:TypeId}{x y:Operand}{i j:Int}(h:Ev n σ c x (.int .i64 i))(h':Ev n σ c y (.int .i64 j))(hr:c→-9223372036854775808≤i-j∧i-j≤9223372036854775807) :
  Rd P n σ c wb (.binOp .sub t x y u) ty (.int .i64 (i-j)):=Xrb h h' (fun hc=>by simp [Op.intArith,Wnc (hr hc)]) (.inr (.inl rfl))
theorem Vbf{t u:TypeId}{x y:Operand}{k:IntKind}{i j:Int}(h:Ev n σ c x (.int k i))(h':Ev n σ c y (.int k j)) :
  Rd P n σ c wb (.binOp .add t x y u) ty (.int k (k.wrap (i+j))):=Xrb h h' (fun hc=>by simp [Op.intArith]) (.inl rfl)
theorem Vcf{t u:TypeId}{x y:Operand}{k:IntKind}{i j:Int}(h:Ev n σ c x (.int k i))(h':Ev n σ c y (.int k j)) :
  Rd P n σ c wb (.binOp .sub t x y u) ty (.int k (k.wrap (i-j))):=Xrb h h' (fun hc=>by simp [Op.intArith]) (.inr (.inl rfl))
theorem Vdf{t u:TypeId}{x y:Operand}{k:IntKind}{i j:Int}(h:Ev n σ c x (.int k i))(h':Ev n σ c y (.int k j)) :
  Rd P n σ c wb (.binOp .mul t x y u) ty (.int k (k.wrap (i*j))):=Xrb h h' (fun hc=>by simp [Op.intArith]) (.inr (.inr rfl))
theorem Jva{t u:TypeId}{x y:Operand}{k:IntKind}{i j:Int}(h:Ev n σ c x (.int k i))(h':Ev n σ c y (.int k j)):Rd P n σ c wb (.binOp .eql t x y u) ty (.bool (decide (i=j))):=.mk fun d pos after gd a ha hc w1 _=>by
 simp [execOp,h a ha hc,h' a ha hc,eqGuard_at_int,binOp,Op.intCmp];rfl
theorem Vta{t u:TypeId}{x y:Operand}{k:IntKind}{i j:Int}(h:Ev n σ c x (.int k i))(h':Ev n σ c y (.int k j)):Rd P n σ c wb (.binOp .neq t x y u) ty (.bool (!decide (i=j))):=.mk fun d pos after gd a ha hc w1 _=>by
 simp [execOp,h a ha hc,h' a ha hc,eqGuard_at_int,binOp,Op.intCmp];rfl
theorem Unb{t u:TypeId}{x y:Operand}{k:IntKind}{i j:Int}(h:Ev n σ c x (.int k i))(h':Ev n σ c y (.int k j)):Rd P n σ c wb (.binOp .lss t x y u) ty (.bool (decide (i<j))):=.mk fun d pos after gd a ha hc w1 _=>by
 simp [execOp,h a ha hc,h' a ha hc,eqGuard_at_int,binOp,Op.intCmp]
theorem rd_le{t u:TypeId}{x y:Operand}{k:IntKind}{i j:Int}(h:Ev n σ c x (.int k i))(h':Ev n σ c y (.int k j)):Rd P n σ c wb (.binOp .leq t x y u) ty (.bool (decide (i≤j))):=.mk fun d pos after gd a ha hc w1 _=>by
 simp [execOp,h a ha hc,h' a ha hc,eqGuard_at_int,binOp,Op.intCmp]
theorem Woc{t u:TypeId}{x y:Operand}{k:IntKind}{i j:Int}(h:Ev n σ c x (.int k i))(h':Ev n σ c y (.int k j)):Rd P n σ c wb (.binOp .gtr t x y u) ty (.bool (decide (j<i))):=.mk fun d pos after gd a ha hc w1 _=>by
 simp [execOp,h a ha hc,h' a ha hc,eqGuard_at_int,binOp,Op.intCmp]
theorem Zpg{t u:TypeId}{x y:Operand}{k:IntKind}{i j:Int}(h:Ev n σ c x (.int k i))(h':Ev n σ c y (.int k j)):Rd P n σ c wb (.binOp .geq t x y u) ty (.bool (decide (j≤i))):=.mk fun d pos after gd a ha hc w1 _=>by
 simp [execOp,h a ha hc,h' a ha hc,eqGuard_at_int,binOp,Op.intCmp]
theorem Ykg{t u:TypeId}{x y:Operand}{i j:Bool}(ht:P.underlying t=some .bool)(h:Ev n σ c x (.bool i))(h':Ev n σ c y (.bool j)):Rd P n σ c wb (.binOp .eql t x y u) ty (.bool (i == j)):=.mk fun d pos after gd a ha hc w1 _=>by
 simp [execOp,h a ha hc,h' a ha hc,eqGuard_at_bool,binOp,Op.equal,Op.maxDepth,run_equalIn_bool' w1 9999 t i j ht]
theorem Ylg{t u:TypeId}{x y:Operand}{i j:Bool}(ht:P.underlying t=some .bool)(h:Ev n σ c x (.bool i))(h':Ev n σ c y (.bool j)):Rd P n σ c wb (.binOp .neq t x y u) ty (.bool (i != j)):=.mk fun d pos after gd a ha hc w1 _=>by
 simp [execOp,h a ha hc,h' a ha hc,eqGuard_at_bool,binOp,Op.equal,Op.maxDepth,run_equalIn_bool' w1 9999 t i j ht];cases i <;> cases j <;> rfl
theorem Wpc{t:TypeId}{x:Operand}{i:Bool}(h:Ev n σ c x (.bool i)):Rd P n σ c wb (.unOp .not t x) ty (.bool (!i)):=.mk fun d pos after gd a ha hc w1 _=>by
 simp [execOp,h a ha hc,Op.unary]
/-! strings -/
@[reducible] def Str(l:List UInt8):Value:=.string ⟨l.toArray⟩
theorem Wqc{t u:TypeId}{x y:Operand}{i j:List UInt8}(h:Ev n σ c x (Str i))(h':Ev n σ c y (Str j)):Rd P n σ c wb (.binOp .eql t x y u) ty (.bool (decide (i=j))):=.mk fun d pos after gd a ha hc w1 _=>by
 simp [execOp,h a ha hc,h' a ha hc,eqGuard_at_string,binOp,Op.stringOp];rw [Bta];simp
theorem Ure{t u:TypeId}{x y:Operand}{i j:List UInt8}(h:Ev n σ c x (Str i))(h':Ev n σ c y (Str j)):Rd P n σ c wb (.binOp .neq t x y u) ty (.bool (!decide (i=j))):=.mk fun d pos after gd a ha hc w1 _=>by
 simp [execOp,h a ha hc,h' a ha hc,eqGuard_at_string,binOp,Op.stringOp];rw [Bta];simp
theorem Qt{t:TypeId}(h:Jab P t=true):P.underlying t=some .string:=by
 unfold Jab at h;split at h;assumption;cases h
theorem Zca{t:TypeId}{x:Operand}{i:List UInt8}(ht:Jab P t=true)(h:Ev n σ c x (Str i)):Rd P n σ c wb (.call { callee:=.builtin .len,args:=#[x],argTypes:=#[t] }) ty (.int .i64 i.length):=.mk fun d pos after gd a ha hc w1 _=>by
 have hr:=run_len_string (P:=P) w1 t ty ⟨i.toArray⟩ (Qt ht);simp [execOp,resolve,invoke,builtin,h a ha hc,hr,ByteArray.size,goInt]
theorem Jq{t:TypeId}{x y:Operand}{l:List UInt8}{k:IntKind}{i:Int}(ht:Jab P t=true)(h:Ev n σ c x (Str l))(h':Ev n σ c y (.int k i))(hi:c→0≤i∧i<l.length) :
 Rd P n σ c wb (.index t x y) ty (.int .u8 (l.getD i.toNat 0).toNat):=.mk fun d pos after gd a ha hc w1 _=>by
 obtain ⟨h0,h1⟩:=hi hc;have hlt:i.toNat<l.length:=by omega
 have hg:(⟨l.toArray⟩:ByteArray)[i.toNat]? = some l[i.toNat]:=by
  rw [ByteArray.getElem?_lt' _ _ (by simpa [ByteArray.size] using hlt)];rfl
 simp [execOp,h a ha hc,h' a ha hc,Instr.index,asIntOf,run_underlying (Qt ht),h0,hg,Bqa,hlt]
theorem Ypb{t:TypeId}{x y z:Operand}{l:List UInt8}{k k':IntKind}{i j:Int}(ht:Jab P t=true)(h:Ev n σ c x (Str l))(h':Ev n σ c y (.int k i))(h'':Ev n σ c z (.int k' j))(hi:c→0≤i∧i≤j∧j≤l.length) :
 Rd P n σ c wb (.slice t x (some y) (some z) none) ty (Str ((l.drop i.toNat).take (j.toNat-i.toNat))):=.mk fun d pos after gd a ha hc w1 _=>by
 obtain ⟨h0,h1,h2⟩:=hi hc;have e1:(0≤j∧j≤((⟨l.toArray⟩:ByteArray).size:Int)):=by simp [ByteArray.size];omega
 have e2:(0≤i∧i≤(j.toNat:Int)):=by omega
 simp only [execOp,h a ha hc,h' a ha hc,h'' a ha hc,Instr.sliceAt,Aua,Aya,Sem.run_bind,run_underlying (Qt ht),Result.andThen_ok];simp [Instr.slice,run_underlying (Qt ht),Instr.sliceBounds,Instr.sliceBound,asIntOf,e1,e2,ByteArray.extract_mk];intro hh;omega
theorem Xsb{t:TypeId}{x y:Operand}{l:List UInt8}{k:IntKind}{i:Int}(ht:Jab P t=true)(h:Ev n σ c x (Str l))(h':Ev n σ c y (.int k i))(hi:c→0≤i∧i≤l.length) :
 Rd P n σ c wb (.slice t x (some y) none none) ty (Str (l.drop i.toNat)):=.mk fun d pos after gd a ha hc w1 _=>by
 obtain ⟨h0,h2⟩:=hi hc;have e2:(0≤i∧i≤((⟨l.toArray⟩:ByteArray).size:Int)):=by simp [ByteArray.size];omega
 have e3:(l.drop i.toNat).take ((⟨l.toArray⟩:ByteArray).size-i.toNat)=l.drop i.toNat:=by
  rw [Bua];simp [ByteArray.size]
 simp only [execOp,h a ha hc,h' a ha hc,Instr.sliceAt,Aua,Aya,Sem.run_bind,run_underlying (Qt ht),Result.andThen_ok];simp [Instr.slice,run_underlying (Qt ht),Instr.sliceBounds,Instr.sliceBound,asIntOf,e2,ByteArray.extract_mk,e3]
theorem Qsc{t:TypeId}{x z:Operand}{l:List UInt8}{k':IntKind}{j:Int}(ht:Jab P t=true)(h:Ev n σ c x (Str l))(h'':Ev n σ c z (.int k' j))(hi:c→0≤j∧j≤l.length) :
 Rd P n σ c wb (.slice t x none (some z) none) ty (Str (l.take j.toNat)):=.mk fun d pos after gd a ha hc w1 _=>by
 obtain ⟨h1,h2⟩:=hi hc;have e1:(0≤j∧j≤((⟨l.toArray⟩:ByteArray).size:Int)):=by simp [ByteArray.size];omega
 simp only [execOp,h a ha hc,h'' a ha hc,Instr.sliceAt,Aua,Aya,Sem.run_bind,run_underlying (Qt ht),Result.andThen_ok];simp [Instr.slice,run_underlying (Qt ht),Instr.sliceBounds,Instr.sliceBound,asIntOf,e1,ByteArray.extract_mk]
/-! slices -/
theorem Jh{t e z by_:Nat}(h:tyElem P t=some (e,z,by_)):P.underlying t=some (.slice e)∧∃ i,P.info? e=some i∧i.size=z∧i.bytes=by_:=by
 unfold tyElem at h;split at h;rename_i e' he
 cases hi:P.info? e' with
 | none=>simp [hi] at h
 | some i =>
  simp only [hi,Aua,Option.some.injEq,Prod.mk.injEq] at h;obtain ⟨rfl,h1,h2⟩:=h;exact ⟨he,i,hi,h1,h2⟩
 cases h
theorem Qdb{t e z by_:Nat}{x:Operand}{b:Option Addr}{m q:Nat}(ht:tyElem P t=some (e,z,by_))(h:Ev n σ c x (.slice b m q)):Rd P n σ c wb (.call { callee:=.builtin .len,args:=#[x],argTypes:=#[t] }) ty (.int .i64 m):=.mk fun d pos after gd a ha hc w1 _=>by
 obtain ⟨hu,i,hi,hz,_⟩:=Jh ht;have he:P.underlying t=some (.slice (P.elem t)):=by rw [hu];simp [Program.elem,hu]
 have hr:=run_len_slice (P:=P) w1 t ty b m q he;simp [execOp,resolve,invoke,builtin,h a ha hc,hr,goInt]
theorem Vaa{t e z by_:Nat}{x y:Operand}{b o m q:Nat}{k:IntKind}{i:Int}(ht:tyElem P t=some (e,z,by_))(h:Ev n σ c x (.slice (some ⟨b,o,none⟩) m q))(h':Ev n σ c y (.int k i))(hi:c→0≤i∧i<m) :
 Rd P n σ c wb (.indexAddr t x y) ty (.pointer (some ⟨b,o+i.toNat*z,none⟩)):=.mk fun d pos after gd a ha hc w1 _=>by
 obtain ⟨hu,i',hi',hz,_⟩:=Jh ht;obtain ⟨h0,h1⟩:=hi hc;simp [execOp,h a ha hc,h' a ha hc,Instr.indexAt,asIntOf,run_underlying hu,h0,h1,sizeOf,typeInfo,hi',hz,Addr.add_lit]
end
def Ret(P:Program)(f:FuncId)(args:Array Value)(w:World)(R:Value→World→Prop):Prop:=Calls P f args w fun e w'=>∃ v,e = .returned v∧R v w'
theorem Ret.mono{P:Program}{f:FuncId}{args:Array Value}{w:World}{R R':Value→World→Prop}(h:Ret P f args w R)(hr:∀ v w',R v w'→R' v w'):Ret P f args w R' :=
 Calls.mono h fun _ _ ⟨v,e,k⟩=>⟨v,e,hr v _ k⟩
theorem Ret.calls{P:Program}{f:FuncId}{args:Array Value}{w:World}{R:Value→World→Prop}(h:Ret P f args w R){R':Ending→World→Prop}(hr:∀ v w',R v w'→R' (.returned v) w'):Calls P f args w R' :=
 Calls.mono h fun e w' ⟨v,he,k⟩=>by subst he;exact hr v w' k
def Blk(w:World)(b:Nat)(e:TypeId)(l:List Value):Prop:=w.heap[b]? = some (.cells l.toArray e (0,0))
theorem Blk.lt{w:World}{b:Nat}{e:TypeId}{l:List Value}(h:Blk w b e l):b<w.heap.size:=by
 rcases Boa b w.heap.size with hlt|hge;exact hlt;unfold Blk at h;rw [Array.getElem?_eq_none hge] at h;cases h
theorem Blk.row{w:World}{b:Nat}{e:TypeId}{l:List Value}(h:Blk w b e l):RowAt w b 0 l:=fun j v hj=>by
 unfold Blk at h;simp [World.cell?,h,hj]
theorem Blk.at_{w:World}{b:Nat}{e:TypeId}{l:List Value}(h:Blk w b e l){i:Nat}{v:Value}(hi:l[i]? = some v):w.cell? ⟨b,i,none⟩=some v:=by
 have:=h.row i v hi;rwa [Bva] at this
theorem Blk.grow{w w1:World}{b:Nat}{e:TypeId}{l:List Value}(h:Blk w b e l)(hg:G w w1):Blk w1 b e l:=(hg.block h.lt).trans h
theorem Blk.keep{w w1:World}{b:Nat}{e:TypeId}{l:List Value}{row:Option Nat}(h:Blk w b e l)(hg:w.grownBy w1 row)(hne:some b≠row):Blk w1 b e l:=(hg.block b h.lt hne).trans h
structure New (w w1:World) (b:Nat) (e:TypeId) (l:List Value):Prop where
  at_:b=w.heap.size
  blk:Blk w1 b e l
  g:G w w1
  size:w1.heap.size=w.heap.size+1
theorem New.ge{a w w1:World}{b:Nat}{e:TypeId}{l:List Value}(h:New w w1 b e l)(g:G a w):a.heap.size≤b:=by have:=g.size;have:=h.at_;omega
theorem New.ne{w w1:World}{b:Nat}{e:TypeId}{l:List Value}(h:New w w1 b e l){b':Nat}{e':TypeId}{l':List Value}(hB:Blk w b' e' l'):b≠b':=by have:=hB.lt;have:=h.at_;omega
theorem Xba(w:World)(e:TypeId)(l:List Value):New w (w.alloc (.cells l.toArray e)) w.heap.size e l :=
 ⟨rfl,by unfold Blk;exact heap_alloc_new w _,(Below.refl _ _).alloc (Ala _) _,by simp⟩
theorem G.only{w w1:World}(h:G w w1)(row:Option Nat):w.grownBy w1 row:=⟨h.os,h.tape,h.output,h.size,fun k hk _=>h.block hk⟩
section
variable (P:Program) (Z:List PanicEntry→Act→World→Prop) (ops:List Oper) (cl:List Nat) (lv:List Bool) (W0:World) (n:Nat) (K:Act→World→Prop)
structure SR (k:Nat) (l:List Oper) (σ:List Ent) (w:World):Prop where mk ::
  h:(∀ j o,l[j]? = some o→ops.toArray[k+j]? = some o)→∀ a,Kn n σ a→RS P Z ops.toArray (clOf cl) (lvOf lv) W0 K (List.range' k l.length) a w
end
section
variable {P:Program} {Z:List PanicEntry→Act→World→Prop} {ops:List Oper} {cl:List Nat} {lv:List Bool} {W0:World} {n:Nat} {K:Act→World→Prop} {k:Nat} {rest:List Oper} {σ:List Ent} {w:World} {d:Nat} {op:Op} {ty:TypeId} {pos:String} {after:Array Edge} {v:Value}
instance {l:List Oper}:CoeFun (SR P Z ops cl lv W0 n K k l σ w) fun _=>(∀ j o,l[j]? = some o→ops.toArray[k+j]? = some o)→∀ a,Kn n σ a→RS P Z ops.toArray (clOf cl) (lvOf lv) W0 K (List.range' k l.length) a w:=⟨SR.h⟩
theorem Ze(h:∀ a,Kn n σ a→K a w):SR P Z ops cl lv W0 n K k [] σ w:=.mk fun _ a ha=>h a ha
theorem Wn{l:List Oper}(τ:List Ent)(hs:Sub τ σ)(h:SR P Z ops cl lv W0 n K k l τ w):SR P Z ops cl lv W0 n K k l σ w:=.mk fun hl a ha=>h hl a (ha.sub hs)
theorem Zka{l:List Oper}{o:Oper}(hl:∀ j o',(o::l)[j]? = some o'→ops.toArray[k+j]? = some o'):ops.toArray[k]? = some o∧∀ j o',l[j]? = some o'→ops.toArray[k+1+j]? = some o' :=
 ⟨hl 0 o rfl,fun j o' h=>by have:=hl (j+1) o' h;rwa [show k+(j+1)=k+1+j by omega] at this⟩
theorem Vjb{d:Option Nat}{y:Nat→Option Bool}:Region.wanted ⟨d,op,ty,pos,after,none⟩ y=true:=rfl
theorem Ut(hb:(Aaa (clOf cl k) 0&&lvOf lv k&&Aba d n)=true)(hr:Rd P n σ True w op ty v)(h:SR P Z ops cl lv W0 n K (k+1) rest ((d,True,v) :: σ) w) :
 SR P Z ops cl lv W0 n K k (⟨some d,op,ty,pos,after,none⟩::rest) σ w:=.mk fun hl a ha=>by
 obtain ⟨h0,h1⟩:=Zka hl;simp only [Aca] at hb;obtain ⟨⟨hc,hv⟩,hd⟩:=hb;rw [Afa,Aka];refine ⟨_,h0,?_⟩;have hc:=Ada hc;rw [if_pos (.inl hc)];refine ⟨v,fun _ w1 hg=>?_,(fun hn=>by cases hn),h h1 _ (ha.put hd (fun _=>rfl) (fun hn=>absurd trivial hn))⟩;have hg:=hg.resolve_left O;rw [if_pos hv] at hg;exact hr _ _ _ _ a ha trivial w1 hg
theorem Zuc(hb:(Aaa (clOf cl k) 0 && !lvOf lv k&&Aba d n)=true)(hr:Rd P n σ True W0 op ty v)(h:SR P Z ops cl lv W0 n K (k+1) rest ((d,True,v) :: σ) w) :
 SR P Z ops cl lv W0 n K k (⟨some d,op,ty,pos,after,none⟩::rest) σ w:=.mk fun hl a ha=>by
 obtain ⟨h0,h1⟩:=Zka hl;simp only [Aca,Bool.not_eq_true'] at hb;obtain ⟨⟨hc,hv⟩,hd⟩:=hb;rw [Afa,Aka];refine ⟨_,h0,?_⟩;have hc:=Ada hc;rw [if_pos (.inl hc)];refine ⟨v,fun _ w1 hg=>?_,(fun hn=>by cases hn),h h1 _ (ha.put hd (fun _=>rfl) (fun hn=>absurd trivial hn))⟩;have hg:=hg.resolve_left O;rw [if_neg (by rw [hv];simp)] at hg;exact hr _ _ _ _ a ha trivial w1 hg
theorem Vkb{g t:Nat}{want b:Bool}{c0:Prop}{a:Act}(hgd:((ops.toArray[g]?).bind (·.dst))=some t)(hlk:look σ t=some (c0,.bool b))(ha:Kn n σ a){d:Option Nat} :
 Region.wanted ⟨d,op,ty,pos,after,some (g,want)⟩ (yielded ops.toArray a.tmps)=true↔c0∧b=want:=by
 obtain ⟨h1,h2⟩:=ha.2.2 t c0 (.bool b) hlk;unfold Region.wanted yielded;simp only [hgd,Option.bind_some];by_cases hc:c0;rw [h1 hc];simp [hc];rw [h2 hc];simp [hc,undef]
open Classical in
theorem Ww{g t:Nat}{want b:Bool}{c0:Prop}(hb:(Aaa (clOf cl k) 0&&lvOf lv k&&Aba d n)=true)(hgd:((ops.toArray[g]?).bind (·.dst))=some t)(hlk:look σ t=some (c0,.bool b))
 (hr:Rd P n σ (c0∧b=want) w op ty v) (h:SR P Z ops cl lv W0 n K (k+1) rest ((d,c0∧b=want,v) :: σ) w) :
 SR P Z ops cl lv W0 n K k (⟨some d,op,ty,pos,after,some (g,want)⟩::rest) σ w:=.mk fun hl a ha=>by
 obtain ⟨h0,h1⟩:=Zka hl;simp only [Aca] at hb;obtain ⟨⟨hc,hv⟩,hd⟩:=hb;rw [Afa,Aka];refine ⟨_,h0,?_⟩;have hc:=Ada hc;rw [if_pos (.inl hc)];have hw:=Vkb (op:=op) (ty:=ty) (pos:=pos) (after:=after) (want:=want) (d:=some d) hgd hlk ha;refine ⟨if c0∧b=want then v else undef,fun hwt w1 hg=>?_,fun hn=>?_,h h1 _ (ha.put hd (fun hh=>if_pos hh) (fun hh=>if_neg hh))⟩;have hg:=hg.resolve_left O;rw [if_pos hv] at hg;rw [if_pos (hw.1 hwt)];exact hr _ _ _ _ a ha (hw.1 hwt) w1 hg;rw [if_neg (fun hh=>by rw [hw.2 hh] at hn;cases hn)]
open Classical in
theorem Zr(hb:(Aaa (clOf cl k) 3&&Aba d n)=true)(hr:∀ wb,Rd P n σ True wb op ty v)(h:SR P Z ops cl lv W0 n K (k+1) rest ((d,True,v) :: σ) w) :
 SR P Z ops cl lv W0 n K k (⟨some d,op,ty,pos,after,none⟩::rest) σ w:=.mk fun hl a ha=>by
 obtain ⟨h0,h1⟩:=Zka hl;simp only [Aca] at hb;rw [Afa,Aka];refine ⟨_,h0,?_⟩;rw [if_pos (.inr (Ada hb.1))];exact ⟨v,fun _ w1 _=>hr w1 _ _ _ _ a ha trivial w1 (G.refl _),(fun hn=>by cases hn),h h1 _ (ha.put hb.2 (fun _=>rfl) (fun hn=>absurd trivial hn))⟩
open Classical in
theorem Zv{g t:Nat}{want b:Bool}{c0:Prop}(hb:(Aaa (clOf cl k) 3&&Aba d n)=true)(hgd:((ops.toArray[g]?).bind (·.dst))=some t)(hlk:look σ t=some (c0,.bool b))
 (hr:∀ wb,Rd P n σ (c0∧b=want) wb op ty v) (h:SR P Z ops cl lv W0 n K (k+1) rest ((d,c0∧b=want,v) :: σ) w) :
 SR P Z ops cl lv W0 n K k (⟨some d,op,ty,pos,after,some (g,want)⟩::rest) σ w:=.mk fun hl a ha=>by
 obtain ⟨h0,h1⟩:=Zka hl;simp only [Aca] at hb;rw [Afa,Aka];refine ⟨_,h0,?_⟩;rw [if_pos (.inr (Ada hb.1))];have hw:=Vkb (op:=op) (ty:=ty) (pos:=pos) (after:=after) (want:=want) (d:=some d) hgd hlk ha;refine ⟨if c0∧b=want then v else undef,fun hwt w1 _=>?_,fun hn=>?_,h h1 _ (ha.put hb.2 (fun hh=>if_pos hh) (fun hh=>if_neg hh))⟩;rw [if_pos (hw.1 hwt)];exact hr w1 _ _ _ _ a ha (hw.1 hwt) w1 (G.refl _);rw [if_neg (fun hh=>by rw [hw.2 hh] at hn;cases hn)]
def RunV(P:Program)(n:Nat)(σ:List Ent)(c:Prop)(w:World)(op:Op)(ty:TypeId)(v:Value)(w':World):Prop :=
 ∀ (d:Option Tmp) (pos:String) (after:Array Edge) (g:Option (Nat×Bool)) (a:Act),Kn n σ a→c→(execOp a.eval ⟨d,op,ty,pos,after,g⟩).run P w = .ok (.value v) w'
def RunS(P:Program)(n:Nat)(σ:List Ent)(c:Prop)(w:World)(op:Op)(ty:TypeId)(w':World):Prop :=
 ∀ (d:Option Tmp) (pos:String) (after:Array Edge) (g:Option (Nat×Bool)) (a:Act),Kn n σ a→c→(execOp a.eval ⟨d,op,ty,pos,after,g⟩).run P w = .ok .skip w'
def RunC(P:Program)(n:Nat)(σ:List Ent)(c:Prop)(w:World)(op:Op)(ty:TypeId)(f:FuncId)(args:Array Value):Prop :=
 ∀ (d:Option Tmp) (pos:String) (after:Array Edge) (g:Option (Nat×Bool)) (a:Act),Kn n σ a→c→(execOp a.eval ⟨d,op,ty,pos,after,g⟩).run P w = .ok (.enter f args) w
theorem Wrc{w':World}(hb:(!Aaa (clOf cl k) 0 && !Aaa (clOf cl k) 3&&Aba d n)=true)(hr:RunV P n σ True w op ty v w')(hg:clOf cl k=1→G w w')(h:SR P Z ops cl lv W0 n K (k+1) rest ((d,True,v) :: σ) w') :
 SR P Z ops cl lv W0 n K k (⟨some d,op,ty,pos,after,none⟩::rest) σ w:=.mk fun hl a ha=>by
 obtain ⟨h0,h1⟩:=Zka hl;simp only [Aca,Bool.not_eq_true'] at hb;rw [Afa,Aka];refine ⟨_,h0,?_⟩;rw [if_neg (fun he=>by rcases he with he|he <;> rw [he] at hb <;> simp at hb),if_pos Vjb]
 exact .inl ⟨v,w',hr _ _ _ _ a ha trivial,fun hh=>hg (by simpa using hh),h h1 _ (ha.put hb.2 (fun _=>rfl) (fun hn=>absurd trivial hn))⟩
theorem Zne{w':World}(hb:Aaa (clOf cl k) 2=true)(hr:RunS P n σ True w op ty w')(h:SR P Z ops cl lv W0 n K (k+1) rest σ w') :
 SR P Z ops cl lv W0 n K k (⟨none,op,ty,pos,after,none⟩::rest) σ w:=.mk fun hl a ha=>by
 obtain ⟨h0,h1⟩:=Zka hl;have hc:=Ada hb;rw [Afa,Aka];refine ⟨_,h0,?_⟩;rw [if_neg O,if_pos Vjb];exact .inr (.inl ⟨w',hr _ _ _ _ a ha trivial,fun hh=>by rw [hc] at hh;simp at hh,h h1 _ ha⟩)
theorem Wk{f:FuncId}{args:Array Value}{R:Value→World→Prop}(hb:(!Aaa (clOf cl k) 0 && !Aaa (clOf cl k) 3&&Aba d n)=true)(hr:RunC P n σ True w op ty f args)(hC:Ret P f args w R)
 (h:∀ v w',R v w'→(clOf cl k=1→G w w')∧SR P Z ops cl lv W0 n K (k+1) rest ((d,True,v) :: σ) w') :
 SR P Z ops cl lv W0 n K k (⟨some d,op,ty,pos,after,none⟩::rest) σ w:=.mk fun hl a ha=>by
 obtain ⟨h0,h1⟩:=Zka hl;simp only [Aca,Bool.not_eq_true'] at hb;rw [Afa,Aka];refine ⟨_,h0,?_⟩;rw [if_neg (fun he=>by rcases he with he|he <;> rw [he] at hb <;> simp at hb),if_pos Vjb]
 refine .inr (.inr (.inl ⟨f,args,hr _ _ _ _ a ha trivial,Calls.mono hC fun e w' ⟨v,he,hv⟩=>.inl ?_⟩));obtain ⟨q1,q2⟩:=h v w' hv;exact ⟨v,he,fun hh=>q1 (by simpa using hh),q2 h1 _ (ha.put hb.2 (fun _=>rfl) (fun hn=>absurd trivial hn))⟩
theorem Ub{f:FuncId}{args:Array Value}(hb:(!Aaa (clOf cl k) 0 && !Aaa (clOf cl k) 3&&Aba d n)=true)(hr:RunC P n σ True w op ty f args)(hC:Ret P f args w fun u w'=>u=v∧G w w')
  (h:∀ w',G w w'→SR P Z ops cl lv W0 n K (k+1) rest ((d,True,v) :: σ) w') :
  SR P Z ops cl lv W0 n K k (⟨some d,op,ty,pos,after,none⟩::rest) σ w :=
 Wk hb hr hC fun u w' ⟨hu,hg⟩=>⟨fun _=>hg,by subst hu;exact h w' hg⟩
theorem Jl{g t:Nat}{want b:Bool}{c0:Prop}{f:FuncId}{args:Array Value}(hb:(!Aaa (clOf cl k) 0 && !Aaa (clOf cl k) 3&&Aba d n)=true)(hgd:((ops.toArray[g]?).bind (·.dst))=some t)(hlk:look σ t=some (c0,.bool b))
 (hr:c0∧b=want→RunC P n σ (c0∧b=want) w op ty f args) (hC:c0∧b=want→Ret P f args w fun u w'=>u=v∧G w w')
 (h:∀ w',G w w'→SR P Z ops cl lv W0 n K (k+1) rest ((d,c0∧b=want,v) :: σ) w') :
 SR P Z ops cl lv W0 n K k (⟨some d,op,ty,pos,after,some (g,want)⟩::rest) σ w:=.mk fun hl a ha=>by
 obtain ⟨h0,h1⟩:=Zka hl;simp only [Aca,Bool.not_eq_true'] at hb;rw [Afa,Aka];have hw:=Vkb (op:=op) (ty:=ty) (pos:=pos) (after:=after) (want:=want) (d:=some d) hgd hlk ha;refine ⟨_,h0,?_⟩;rw [if_neg (fun he=>by rcases he with he|he <;> rw [he] at hb <;> simp at hb)]
 by_cases hh:c0∧b=want;rw [if_pos (hw.2 hh)];refine .inr (.inr (.inl ⟨f,args,hr hh _ _ _ _ a ha hh,Calls.mono (hC hh) fun e w' ⟨u,he,hu,hg⟩=>.inl ?_⟩));subst hu;exact ⟨u,he,fun _=>hg,h w' hg h1 _ (ha.put hb.2 (fun _=>rfl) (fun hn=>absurd hh hn))⟩;rw [if_neg (fun hq=>hh (hw.1 hq))];exact h w (G.refl w) h1 _ (ha.put hb.2 (fun hq=>absurd hq hh) (fun _=>rfl))
/-! the operations that make memory -/
theorem Xza{elem:TypeId}{x:Operand}{u:Value}{l:List Value}(hb:(!Aaa (clOf cl k) 0 && !Aaa (clOf cl k) 3&&Aba d n)=true)(hx:Ev n σ True x u)(hl:u.cells=l.toArray)
  (h:∀ b w1,New w w1 b elem l→SR P Z ops cl lv W0 n K (k+1) rest ((d,True,.pointer (some ⟨b,0,none⟩)) :: σ) w1) :
  SR P Z ops cl lv W0 n K k (⟨some d,.box elem x,ty,pos,after,none⟩::rest) σ w :=
 Wrc hb (w':=w.alloc (.cells l.toArray elem)) (fun d pos after g a ha _=>by simp [execOp,hx a ha trivial,Instr.box,newVar,newRow,hl]) (fun _=>(Xba w elem l).g) (h _ _ (Xba w elem l))
def zeroOf(P:Program)(t:TypeId):Option Value:=match P.info? t with|some i=>i.zero|none=>none
theorem Qsa{t:TypeId}{z:Value}(h:zeroOf P t=some z):∃ i,P.info? t=some i∧i.zero=some z:=by
 unfold zeroOf at h;split at h;exact ⟨_,by assumption,h⟩;cases h
theorem Xh{elem:TypeId}{z:Value}{l:List Value}(hb:(!Aaa (clOf cl k) 0 && !Aaa (clOf cl k) 3&&Aba d n)=true)(hz:zeroOf P elem=some z)(hl:z.cells=l.toArray)
 (h:∀ b w1,New w w1 b elem l→SR P Z ops cl lv W0 n K (k+1) rest ((d,True,.pointer (some ⟨b,0,none⟩)) :: σ) w1) :
 SR P Z ops cl lv W0 n K k (⟨some d,.alloc elem,ty,pos,after,none⟩::rest) σ w:=by
 obtain ⟨i,hi,hz'⟩:=Qsa hz;exact Wrc hb (w':=w.alloc (.cells l.toArray elem)) (fun d pos after g a ha _=>by simp [execOp,Instr.alloc,zeroValue,typeInfo,hi,hz',newVar,newRow,hl]) (fun _=>(Xba w elem l).g) (h _ _ (Xba w elem l))
def Vma(n:Nat)(σ:List Ent)(c:Prop)(ps:Array (Nat×Operand))(vs:List (Nat×Value)):Prop:=∀ a,Kn n σ a→c→(ps.map fun p=>(p.1,a.eval p.2)).toList=vs
theorem Vn{n:Nat}{σ:List Ent}{c:Prop}:Vma n σ c #[] []:=fun _ _ _=>by simp
theorem Wa{n:Nat}{σ:List Ent}{c:Prop}{i:Nat}{x:Operand}{u:Value}{ps:List (Nat×Operand)}{vs:List (Nat×Value)}(h:Ev n σ c x u)(k:Vma n σ c ps.toArray vs):Vma n σ c ((i,x)::ps).toArray ((i,u)::vs):=fun a ha hc=>by
 have:=k a ha hc;simp only [Bga,List.toList_toArray] at this ⊢;rw [Aza,this,h a ha hc]
def Wy(P:Program)(t:TypeId):Option (List (Nat×Nat)):=match P.underlying t with
 | some (.struct fs)=>fs.toList.mapM fun f=>(P.info? f.type).map fun i=>(f.offset,i.size)
 | _=>none
theorem Wsc(w:World):∀ (fs:List Field) (ps:List (Nat×Nat)),(fs.mapM fun f=>(P.info? f.type).map fun i=>(f.offset,i.size))=some ps→
  (fs.mapM (fun f=>(do pure (f.offset,← sizeOf f.type):Sem (Nat×Nat)))).run P w = .ok ps w
 | [],ps,h=>by simp at h;subst h;rfl
 | f::fs,ps,h=>by
  rw [Bha] at h
  cases hi:P.info? f.type with
  | none=>rw [hi] at h;simp at h
  | some i =>
   rw [hi] at h
   cases hr:(fs.mapM fun f=>(P.info? f.type).map fun i=>(f.offset,i.size)) with
   | none=>rw [hr] at h;simp at h
   | some qs =>
    rw [hr] at h;simp at h;subst h;have:=Wsc w fs qs hr;rw [Bha];simp [sizeOf,typeInfo,hi] at this ⊢;rw [this];simp
def Xkc(pl:Nat→Option (Nat×Nat)):List Value→List (Nat×Value)→Option (List Value)
 | cs,[]=>some cs
 | cs,(i,v)::rest=>match pl i with
  | none=>none
  | some (off,z)=>if Aaa v.cells.toList.length z&&Aja (off+z) cs.length then Xkc pl (cs.take off++v.cells.toList++cs.drop (off+z)) rest else none
theorem Wtc:∀ (vs:List Value) (off i:Nat) (cs:List Value),off+i+vs.length≤cs.length→
  (vs.zipIdx i).foldl (fun (cs:Array Value) (p:Value×Nat)=>cs.setIfInBounds (off+p.2) p.1) cs.toArray=(cs.take (off+i)++vs++cs.drop (off+i+vs.length)).toArray
 | [],off,i,cs,_=>by simp
 | v::vs,off,i,cs,h=>by
  simp only [Afa] at h;rw [List.zipIdx_cons,List.foldl_cons];have e:(cs.toArray.setIfInBounds (off+i) v)=(cs.set (off+i) v).toArray:=by simp
  simp only [e];rw [Wtc vs off (i+1) _ (by simp;omega)];have hlt:off+i<cs.length:=by omega
  have e1:(cs.set (off+i) v).take (off+(i+1))=cs.take (off+i)++[v]:=by
   rw [show off+(i+1)=(off+i)+1 by omega,List.take_add_one,Cda (Ala _)];simp [hlt]
  have e2:(cs.set (off+i) v).drop (off+(i+1)+vs.length)=cs.drop (off+i+(v::vs).length):=by
   rw [Cea O];congr 1;simp;omega
  rw [e1,e2];simp [Baa]
theorem Vlb(pl:Nat→Option (Nat×Nat)):∀ (vs:List (Nat×Value)) (cs l:List Value),Xkc pl cs vs=some l→Instr.fill pl cs.toArray vs=some l.toArray
 | [],cs,l,h=>by injection h with h;subst h;rfl
 | (i,v)::rest,cs,l,h=>by
  unfold Xkc at h;unfold Instr.fill;split at h;cases h;rename_i off z hp;split at h;rename_i hc;simp only [Aca] at hc;have h1:=Ada hc.1;have h2:=Aha hc.2;simp only [hp];have h3:v.cells.size=z:=by simpa using h1
  rw [if_neg (by simp [h3];omega)]
  have e:v.cells.zipIdx.foldl (fun cs x=>cs.setIfInBounds (off+x.2) x.1) cs.toArray=(cs.take off++v.cells.toList++cs.drop (off+z)).toArray:=by
   have:=Wtc v.cells.toList off 0 cs (by rw [h1];omega);rw [h1] at this;simp only [Nat.add_zero] at this;rw [← this,← Array.foldl_toList,Array.toList_zipIdx]
  have e':=Vlb pl rest _ l h;rw [← e] at e';exact e';cases h
theorem Ux{c:Prop}{wb:World}{t:TypeId}{ps:Array (Nat×Operand)}{vs:List (Nat×Value)}{pl:List (Nat×Nat)}{z:Value}{zl:List Value}(l:List Value)(hz:zeroOf P t=some z)(hzl:z.cells=zl.toArray)(hp:Wy P t=some pl)(hx:Vma n σ c ps vs)
 (hf:Xkc (fun (i:Nat)=>pl[i]?) zl vs=some l):Rd P n σ c wb (.build t ps) ty (.agg l.toArray):=.mk fun d pos after g a ha hc w1 _=>by
 have hf:=Vlb _ _ _ _ hf;rw [← hzl] at hf;obtain ⟨i,hi,hz'⟩:=Qsa hz;unfold Wy at hp;split at hp;rename_i fs hfs;have hpl:=Wsc (P:=P) w1 fs.toList pl hp
 have hpl':(fs.mapM (fun f=>(do pure (f.offset,← sizeOf f.type):Sem (Nat×Nat)))).run P w1 = .ok pl.toArray w1:=by
  rw [Bia];simp only [Sem.run_map,hpl,Result.andThen_ok]
 have hx':=hx a ha hc;simp only [execOp,Instr.build,Sem.run_bind,zeroValue,typeInfo,run_program,Result.andThen_ok,hi,hz',Sem.run_pure,run_underlying hfs];rw [hpl'];simp only [Result.andThen_ok];have hfun:(fun (x:Nat)=>pl.toArray[x]?)=(fun (i:Nat)=>pl[i]?):=by funext i;simp
 rw [hfun,hx',hf];rfl;cases hp
def Qtc(z:Nat):Nat→List (Nat×Value)→Option (List Value)
 | _,[]=>some []
 | k,(i,v)::rest=>if Aaa i k&&Aaa v.cells.toList.length z then (Qtc z (k+1) rest).map (v.cells.toList ++ ·) else none
theorem Qeb(z:Nat):∀ (vs:List (Nat×Value)) (k:Nat) (done cs l:List Value),Qtc z k vs=some l→done.length=k*z→cs.length=(k+vs.length)*z→cs.take (k*z)=done→
  Xkc (fun i=>some (i*z,z)) cs vs=some (done++l)
 | [],k,done,cs,l,h,h1,h2,h3=>by
  injection h with h;subst h;unfold Xkc;rw [← h3,Bma,Bua (by rw [h2];simp)]
 | (i,v)::rest,k,done,cs,l,h,h1,h2,h3=>by
  unfold Qtc at h;split at h
  ·rename_i hc
   simp only [Aca] at hc;have e1:=Ada hc.1;have e2:=Ada hc.2;subst e1
   cases hr:Qtc z (i+1) rest with
   | none=>rw [hr] at h;cases h
   | some l' =>
    rw [hr] at h;injection h with h;subst h;unfold Xkc;simp only [Afa] at h2;have hm:(i+1)*z=i*z+z:=by rw [Bja,Nat.one_mul]
    have hm2:(i+(rest.length+1))*z=i*z+z+rest.length*z:=by rw [Bja,Bja,Nat.one_mul];omega
    have hle:i*z+z≤cs.length:=by rw [h2,hm2];omega
    dsimp only;rw [if_pos (by rw [Aca];exact ⟨hc.2,Cfa hle⟩)]
    have:=Qeb z rest (i+1) (done++v.cells.toList) (cs.take (i*z)++v.cells.toList++cs.drop (i*z+z)) l' hr (by rw [Ata,h1,e2,hm]) (by
     rw [Ata,Ata,e2,Bba,List.length_drop,h2,hm2,Bja,hm];omega) (by
     rw [hm,List.take_append_of_le_length (by rw [Ata,e2,Bba];omega),Bua (by rw [Ata,e2,Bba];omega),h3])
    rw [this,Baa]
  · cases h
theorem Ye{t e z by_ m:Nat}{ps:Array (Nat×Operand)}{vs:List (Nat×Value)}{zv:Value}(l:List Value)(hb:(!Aaa (clOf cl k) 0 && !Aaa (clOf cl k) 3&&Aba d n)=true)(ht:tyElem P t=some (e,z,by_))(hz:zeroOf P e=some zv)
 (hx:Vma n σ True ps vs) (hm:(Aja (m*z) 16777216 && !Aaa (m*z) 0&&Aaa vs.length m)=true) (hf:Qtc z 0 vs=some l)
 (h:∀ b w1,New w w1 b e l→SR P Z ops cl lv W0 n K (k+1) rest ((d,True,.slice (some ⟨b,0,none⟩) m m) :: σ) w1) :
 SR P Z ops cl lv W0 n K k (⟨some d,.buildSlice t m ps,ty,pos,after,none⟩::rest) σ w:=by
 obtain ⟨hu,i,hi,hsz,_⟩:=Jh ht;obtain ⟨i',hi',hz'⟩:=Qsa hz;obtain rfl:i=i':=Option.some.inj (hi.symm.trans hi');simp only [Aca,Bool.not_eq_true'] at hm;have hm1:¬ (m*z>2 ^ 24):=by have:=Aha hm.1.1;omega
 have hm2:¬ (m*z=0):=by intro he;rw [he] at hm;simp at hm
 have hvl:=Ada hm.2
 have hfill:Instr.fill (fun i=>some (i*z,z)) ((Array.range (m*z)).map (zv.cells[· % zv.cells.size]!)) vs=some l.toArray:=by
  have h1:=Qeb z vs 0 [] ((Array.range (m*z)).map (zv.cells[· % zv.cells.size]!)).toList l hf Os (by simp [hvl]) Os;have:=Vlb _ _ _ _ h1;rwa [Bwa] at this
 refine Wrc hb (w':=w.alloc (.cells l.toArray e)) (fun d pos after g a ha _=>?_) (fun _=>(Xba w e l).g) (h _ _ (Xba w e l));have hx':=hx a ha trivial;simp only [execOp,Instr.buildSlice,Sem.run_bind,run_underlying hu,Result.andThen_ok,sizeOf,typeInfo,run_program,hi,Sem.run_pure,hsz,if_neg hm1,if_neg hm2,zeroValue,hz'];rw [hx',hfill];simp [newRow]
/-! calls -/
def goFn(P:Program)(f:FuncId):Bool:=match P.funcs[f]? with|some fn=>!(fn.name == "runtime.NumGoroutine")&&fn.body.isSome|none=>false
def Vba(n:Nat)(σ:List Ent)(c:Prop)(xs:List Operand)(vs:List Value):Prop:=∀ a,Kn n σ a→c→xs.map a.eval=vs
theorem Xr{n:Nat}{σ:List Ent}{c:Prop}:Vba n σ c [] []:=fun _ _ _=>rfl
theorem Yn{n:Nat}{σ:List Ent}{c:Prop}{x:Operand}{u:Value}{xs:List Operand}{vs:List Value}(h:Ev n σ c x u)(k:Vba n σ c xs vs):Vba n σ c (x::xs) (u::vs):=fun a ha hc=>by
 rw [Aza,h a ha hc,k a ha hc]
theorem Xtb{f:FuncId}(hf:goFn P f=true)(args:Array Value)(w:World):(callFunc f args).run P w = .ok (.enter f args) w:=by
 unfold goFn at hf;split at hf;rename_i fn hfn;simp only [Aca,Bool.not_eq_true'] at hf;obtain ⟨h1,h2⟩:=hf;have h3:¬ fn.body=none:=by intro hb;rw [hb] at h2;cases h2
 have h4:¬ fn.name = "runtime.NumGoroutine" := by simpa using h1
 simp [callFunc,hfn,h4,h3];cases hf
theorem Yd{c:Prop}{x:Operand}{f:FuncId}{fs cs:Array Value}{xs:List Operand}{vs:List Value}{ats:Array TypeId}{args:Array Value}(hf:goFn P f=true)(h:Ev n σ c x (.func (.func f) fs cs))(hx:Vba n σ c xs vs)
 (ha:fs++vs.toArray++cs=args):RunC P n σ c w (.call { callee:=.value x,args:=xs.toArray,argTypes:=ats }) ty f args:=fun d pos after g a hk hc=>by
 have h1:=hx a hk hc;have h2:xs.toArray.map a.eval=vs.toArray:=by rw [Bga,h1]
 simp only [execOp,resolve,h a hk hc,h2,Deferred.ofValue,Sem.run_bind,Sem.run_pure,Result.andThen_ok,invoke,ha];exact Xtb hf args w
def onesB(l:List Value):Bool:=l.all (·.oneCell')
theorem Zoe{l:List Value}(h:onesB l=true):∀ u∈l,u.oneCell'=true:=fun u hu=>Aia.1 h u hu
/-! stores -/
theorem Xyd{b o:Nat}{e:TypeId}{l:List Value}{v:Value}(hB:Blk w b e l)(ho:o<l.length)(hv:v.oneCell'=true) :
 (store ⟨b,o,none⟩ v).run P w = .ok () (w.setCell ⟨b,o,none⟩ v)∧Blk (w.setCell ⟨b,o,none⟩ v) b e (l.set o v)∧w.grownBy (w.setCell ⟨b,o,none⟩ v) (some b):=by
 have hc:w.cell? ⟨b,o,none⟩=some l[o]:=hB.at_ (List.getElem?_eq_getElem ho);have hfz:w.frozen? ⟨b,o,none⟩=false:=by unfold Blk at hB;simp [World.frozen?,hB]
 refine ⟨?_,?_,⟨rfl,rfl,rfl,by simp,fun k hk hne=>Below.heap_setCell _ _ _ _ (fun he=>hne (by rw [he]))⟩⟩;rw [run_store P w _ v _ hv,hc];simp [hfz];unfold Blk at hB ⊢;simp [World.setCell,Array.getElem?_modify,hB]
theorem Zgb{a b c:World}{row:Option Nat}(h:a.grownBy b row)(k:b.grownBy c row):a.grownBy c row :=
 ⟨k.os.trans h.os,k.tape.trans h.tape,k.output.trans h.output,Nat.le_trans h.size k.size,fun i hi hn=>(k.block i (Nat.lt_of_lt_of_le hi h.size) hn).trans (h.block i hi hn)⟩
theorem Jbb{b e:Nat}:∀ (vs:List Value) (o i:Nat) (l:List Value) (w:World),Blk w b e l→o+i+vs.length≤l.length→(∀ u∈vs,u.oneCell'=true)→
  ∃ w',(storeCells ⟨b,o,none⟩ vs i).run P w = .ok () w'∧Blk w' b e (l.take (o+i)++vs++l.drop (o+i+vs.length))∧w.grownBy w' (some b)∧w'.heap.size=w.heap.size
 | [],o,i,l,w,hB,_,_=>⟨w,rfl,by simpa using hB,⟨rfl,rfl,rfl,Ala _,fun _ _ _=>rfl⟩,rfl⟩
 | v::vs,o,i,l,w,hB,hl,h1=>by
  simp only [Afa] at hl;obtain ⟨q1,q2,q3⟩:=Xyd (P:=P) hB (o:=o+i) O (h1 v Aga);obtain ⟨w',r1,r2,r3,r4⟩:=Jbb vs o (i+1) (l.set (o+i) v) _ q2 (by simp;omega) (fun u hu=>h1 u (Ama _ hu));refine ⟨w',?_,?_,Zgb q3 r3,by rw [r4];simp⟩;simp only [storeCells,Sem.run_bind,Addr.add_lit,q1,Result.andThen_ok];exact r1;have hlt:o+i<l.length:=by omega
  have e1:(l.set (o+i) v).take (o+(i+1))=l.take (o+i)++[v]:=by
   rw [show o+(i+1)=(o+i)+1 by omega,List.take_add_one,Cda (Ala _)];simp [hlt]
  have e2:(l.set (o+i) v).drop (o+(i+1)+vs.length)=l.drop (o+i+(v::vs).length):=by
   rw [Cea O];congr 1;simp;omega
  rw [e1,e2] at r2;simpa [Baa] using r2
theorem Xn{t:TypeId}{x y:Operand}{b o z:Nat}{e:TypeId}{u:Value}{l vs:List Value}(hb:Aaa (clOf cl k) 2=true)(hs:tySize P t=some z)(hx:Ev n σ True x (.pointer (some ⟨b,o,none⟩)))(hy:Ev n σ True y u)
 (hu:u.cells=vs.toArray) (hz:vs.length=z) (hB:Blk w b e l) (hfit:Aja (o+vs.length) l.length=true) (h1:onesB vs=true)
 (h:∀ w1,w.grownBy w1 (some b)→w1.heap.size=w.heap.size→Blk w1 b e (l.take o++vs++l.drop (o+vs.length))→SR P Z ops cl lv W0 n K (k+1) rest σ w1) :
 SR P Z ops cl lv W0 n K k (⟨none,.store t x y,ty,pos,after,none⟩::rest) σ w:=by
 obtain ⟨w1,r1,r2,r3,r4⟩:=Jbb (P:=P) vs o 0 l w hB (by have:=Aha hfit;omega) (Zoe h1);refine Zne hb (w':=w1) (fun d pos after g a ha _=>?_) (h w1 r3 r4 (by simpa using r2));unfold tySize at hs;obtain ⟨i,hi,hi2⟩:=Option.map_eq_some_iff.1 hs;have hsz:(sizeOf t).run P w = .ok vs.length w:=by simp [sizeOf,typeInfo,hi,hi2,hz]
 simp [execOp,hx a ha trivial,hy a ha trivial,Instr.storeAt,Instr.sureAddr,storeVar,hsz,hu,r1]
theorem Xk{t:TypeId}{x y:Operand}{b z:Nat}{e:TypeId}{u:Value}{l vs:List Value}(hb:Aaa (clOf cl k) 2=true)(hs:tySize P t=some z)(hx:Ev n σ True x (.pointer (some ⟨b,0,none⟩)))(hy:Ev n σ True y u)
 (hu:u.cells=vs.toArray) (hz:vs.length=z) (hB:Blk w b e l) (hfit:Aaa vs.length l.length=true) (h1:onesB vs=true)
 (h:∀ w1,w.grownBy w1 (some b)→w1.heap.size=w.heap.size→Blk w1 b e vs→SR P Z ops cl lv W0 n K (k+1) rest σ w1) :
 SR P Z ops cl lv W0 n K k (⟨none,.store t x y,ty,pos,after,none⟩::rest) σ w:=by
 have hf:=Ada hfit;refine Xn hb hs hx hy hu hz hB (by rw [Bva,hf];exact Nat.ble_self_eq_true _) h1 fun w1 h2 h3 h4=>h w1 h2 h3 ?_;rw [Bva,hf,List.drop_length,List.take_zero,Bxa,Bma] at h4;exact h4
theorem Yb{t:TypeId}{x y:Operand}{b o:Nat}{e:TypeId}{u v:Value}{l:List Value}(hb:Aaa (clOf cl k) 2=true)(hs:tySize P t=some 1)(hx:Ev n σ True x (.pointer (some ⟨b,o,none⟩)))(hy:Ev n σ True y u)
 (hu:u.cells = #[v]) (hB:Blk w b e l) (hfit:Aba o l.length=true) (h1:v.oneCell'=true)
 (h:∀ w1,w.grownBy w1 (some b)→w1.heap.size=w.heap.size→Blk w1 b e (l.set o v)→SR P Z ops cl lv W0 n K (k+1) rest σ w1) :
 SR P Z ops cl lv W0 n K k (⟨none,.store t x y,ty,pos,after,none⟩::rest) σ w:=by
 have hf:o<l.length:=Aha hfit;refine Xn (vs:=[v]) hb hs hx hy hu rfl hB (Nat.ble_eq▸hf) (by simp [onesB,h1]) fun w1 h2 h3 h4=>h w1 h2 h3 ?_
 have e1:l.set o v=l.take o++[v]++l.drop (o+[v].length):=by
  rw [List.set_eq_take_append_cons_drop,if_pos hf];simp
 rw [e1];exact h4
theorem Qc{t e z by_ base m q q':Nat}{x y:Operand}{s zv:Value}{xs news:List Value}{b' o':Nat}(hb:(Aaa (clOf cl k) 2&&Aba d n)=true)(ht:tyElem P t=some (e,z,by_))(hzv:zeroOf P e=some zv)
 (hzs:zv.cells.size=z) (hz0:0<z) (hx:Ev n σ True x s) (hown:w.ownsRow base e z s m xs) (hy:Ev n σ True y (.slice (some ⟨b',o',none⟩) q q')) (hl:news.length=q*z) (hn:RowAt w b' o' news) (h1:onesB news=true)
 (h63:m+q≤maxLen) (hby:(m+q)*by_≤140737488355328) (hbase:base≤w.heap.size)
 (h:∀ a' c' w',w'.ownsRow base e z (.slice a' (m+q) c') (m+q) (xs++news)→w.grownBy w' s.ownBlock→((Value.slice a' (m+q) c').ownBlock=s.ownBlock∨(Value.slice a' (m+q) c').ownBlock=some w.heap.size)→SR P Z ops cl lv W0 n K (k+1) rest ((d,True,.slice a' (m+q) c') :: σ) w') :
 SR P Z ops cl lv W0 n K k (⟨some d,.call { callee:=.builtin .append,args:=#[x,y],argTypes:=#[t,t] },ty,pos,after,none⟩::rest) σ w:=by
 obtain ⟨hu,i,hi,hsz,hbyi⟩:=Jh ht;obtain ⟨i',hi',hz'⟩:=Qsa hzv;obtain rfl:i=i':=Option.some.inj (hi.symm.trans hi');simp only [Aca] at hb;have hc:=Ada hb.1;obtain ⟨s',w',r1,r2,r3,_,r5⟩:=run_append_own_at (P:=P) w base t ty e i zv z by_ hu hi hz' hsz hbyi hzs hz0 s m xs hown ⟨b',o',none⟩ q q' news hl (fun j u hj=>by rw [Addr.add_lit];exact hn j u hj) (Zoe h1) h63 hby hbase
 obtain ⟨a',c',hs'⟩:∃ a' c',s' = .slice a' (m+q) c':=by
  rcases r2.2 with ⟨q1,q2⟩|⟨g,cap,cur,q1,_⟩;exact ⟨none,0,by rw [q1,q2]⟩;exact ⟨_,cap,q1⟩
 subst hs';refine Wrc (w':=w') (by rw [hc,hb.2];rfl) (fun d pos after g a ha _=>?_) (fun hh=>O) (h a' c' w' r2 r3 r5);simp only [execOp,resolve,invoke,builtin,Sem.run_bind,Sem.run_pure,Result.andThen_ok,Bga,Aza,List.map_nil,hx a ha trivial,hy a ha trivial,r1]
end
/-! ## Code -/
def Qof(N:Act→World→Prop)(X:List (Nat×(Act→World→Prop)))(T:Act→World→Prop)(B:List PanicEntry→World→Prop):Exit→Act→World→Prop
 | .normal,a,w=>N a w
 | .ret,a,w=>T a w
 | .exit id,a,w=>match X.lookup id with|some k=>k a w|none=>False
 | .panic ch,a,w=>a.defers=[]∧B ch w
 | _,_,_=>False
@[reducible] def ZA(B:List PanicEntry→World→Prop)(ch:List PanicEntry)(a:Act)(w:World):Prop:=a.defers=[]∧B ch w
structure SZ (P:Program) (B:List PanicEntry→World→Prop) (n:Nat) (c:Code) (N:Act→World→Prop) (X:List (Nat×(Act→World→Prop))) (T:Act→World→Prop) (σ:List Ent) (w:World):Prop where mk ::
  h:∀ a,Kn n σ a→c.wp P (Qof N X T B) a w
@[reducible] def SC(P:Program)(n:Nat)(c:Code)(N:Act→World→Prop)(X:List (Nat×(Act→World→Prop)))(T:Act→World→Prop)(σ:List Ent)(w:World):Prop:=SZ P (fun _ _=>False) n c N X T σ w
section
variable {P:Program} {B:List PanicEntry→World→Prop} {n:Nat} {N T:Act→World→Prop} {X:List (Nat×(Act→World→Prop))} {σ:List Ent} {w:World}
instance {c:Code}:CoeFun (SZ P B n c N X T σ w) fun _=>∀ a,Kn n σ a→c.wp P (Qof N X T B) a w:=⟨SZ.h⟩
theorem Zla{c:Code}(τ:List Ent)(hs:Sub τ σ)(h:SZ P B n c N X T τ w):SZ P B n c N X T σ w:=.mk fun a ha=>h a (ha.sub hs)
theorem Vv{x y:Code}(h:∀ K:Act→World→Prop,(∀ τ u,SZ P B n y N X T τ u→∀ a,Kn n τ a→K a u)→SZ P B n x K X T σ w):SZ P B n (.seq x y) N X T σ w:=.mk fun a ha=>by
 refine wp_seq (Code.wp_mono (fun e a w q=>?_) (h (fun a w=>y.wp P (Qof N X T B) a w) (fun τ u hy a ha=>hy a ha) a ha));cases e <;> exact q
theorem Ym(h:∀ a,Kn n σ a→N a w):SZ P B n .skip N X T σ w:=.mk fun a ha=>wp_skip (h a ha)
theorem Xv(h:∀ a,Kn n σ a→T a w):SZ P B n .ret N X T σ w:=.mk fun a ha=>wp_ret (h a ha)
theorem Jr{id:Nat}{k:Act→World→Prop}(hk:X.lookup id=some k)(h:∀ a,Kn n σ a→k a w):SZ P B n (.exit id) N X T σ w:=.mk fun a ha=>wp_exit (by
 show match X.lookup id with|some k=>k a w|none=>False
 rw [hk];exact h a ha)
theorem Yz{id:Nat}{c:Code}(h:SZ P B n c N ((id,N)::X) T σ w):SZ P B n (.block id c) N X T σ w:=.mk fun a ha=>by
 refine wp_block (Code.wp_mono (fun e a w q=>?_) (h a ha))
 cases e with
 | exit id' =>
  simp only [Exit.inBlock];by_cases he:id'=id;subst he;rw [if_pos rfl];simpa [Qof,List.lookup] using q;rw [if_neg he];simp only [Qof] at q ⊢;rw [List.lookup_cons] at q;have:(id' == id)=false:=by simpa using he
  rw [this] at q;exact q
 | _=>exact q
theorem Xca{x:Operand}{b:Bool}{p q:Code}(hx:Ev n σ True x (.bool b))(h1:b=true→SZ P B n p N X T σ w)(h2:b=false→SZ P B n q N X T σ w):SZ P B n (.cond x p q) N X T σ w:=.mk fun a ha =>
 wp_cond_split (hx a ha trivial) (fun h=>h1 h a ha) (fun h=>h2 h a ha)
theorem Zpe{t:Nat}{g:Bool}{y:Code}{b0:Bool}(τ:List Ent)(hs:Sub ((t,True,.bool g) :: τ) σ)(hx:look σ t=some (True,.bool g))
 (hy:g=false→SZ P B n y (fun a w'=>Kn n ((t,True,.bool b0) :: τ) a∧w'=w) X T σ w) (hN:∀ a,Kn n ((t,True,.bool (g || b0)) :: τ) a→N a w) :
 SZ P B n (.cond (.tmp t) .skip y) N X T σ w:=by
 refine Xca (Zc hx) (fun hg=>?_) (fun hg=>?_);subst hg;exact Ym fun a ha=>hN a (by simpa using ha.sub hs);refine .mk fun a ha=>?_;refine Code.wp_mono (fun e a' w' q=>?_) (hy hg a ha)
 cases e with
 | normal=>obtain ⟨q1,rfl⟩:=q;subst hg;exact hN a' (by simpa using q1)
 | _=>exact q
theorem Wp{id:Nat}{l:List Oper}(cl:List Nat)(h:SR P (ZA B) l cl [] w n N 0 l σ w):SZ P B n (.region id l.toArray false) N X T σ w:=.mk fun a ha=>by
 have h1:=h (fun j o ho=>by simpa using ho) a ha;have e:lvOf []=fun _=>true:=by funext i;simp [lvOf]
 rw [e] at h1
 have h2:RS P (ZA B) l.toArray (clOf cl) (fun _=>true) w (fun a w=>(Qof N X T B) .normal a w) (Aea l.toArray.size) a w:=by
  rw [List.range_eq_range'];simpa [Qof] using h1
 exact wpIn_wide.1 (Qrc (ρ:=none) (fun _ _ _ h=>h) h2)
theorem Xd{id:Nat}{l:List Oper}(cl:List Nat)(lv:List Bool)(ms:List Nat)(hm:P.follows .mixedOrders=true)(hok:okB l cl lv ms=true)
 (h:SR P NoP l cl lv w.drew n N 0 l σ w.drew):SZ P B n (.region id l.toArray true) N X T σ w:=.mk fun a ha=>by
 have h1:=h (fun j o ho=>by simpa using ho) a ha
 have h2:RS P NoP l.toArray (clOf cl) (lvOf lv) w.drew (fun a w=>(Qof N X T B) .normal a w) (Aea l.toArray.size) a w.drew:=by
  rw [List.range_eq_range'];simpa [Qof] using h1
 exact Wzf (Vaf hok) hm h2
theorem Xwa{c:Code}{α:Type}(I:α→World→Prop)(σf:α→List Ent)(μ:α→Nat)(x0:α)(h0:I x0 w)(hs:Sub (σf x0) σ)
 (round:∀ x w,I x w→SZ P B n c (fun a' w'=>∃ y,Kn n (σf y) a'∧I y w'∧μ y < μ x) X T (σf x) w):SZ P B n (.loop c) N X T σ w:=.mk fun a ha=>by
 intro b k cs
 have key:∀ m x a w,μ x=m→Kn n (σf x) a→I x w→
   ∃ e a' w',Qof N X T B e a' w'∧Arrives P (lone (b.at a (.code c :: .inLoop c::k)) cs w) b k cs e a' w':=by
  intro m
  induction m using Nat.strongRecOn with
  | _ m ih =>
   intro x a w hm hk hI
   obtain ⟨e,a₁,w₁,hq,harr⟩:=round x w hI a hk b (.inLoop c::k) cs
   cases e with
   | normal =>
    obtain ⟨y,hk1,hI1,hlt⟩:=hq
    obtain ⟨e₂,a₂,w₂,hq₂,harr₂⟩:=ih (μ y) (hm▸hlt) y a₁ w₁ rfl hk1 hI1
    exact ⟨e₂,a₂,w₂,hq₂,.of_steps (Steps.trans harr (.one step_inLoop)) harr₂⟩
   | exit id=>exact ⟨.exit id,a₁,w₁,hq,.pass (x:=.inLoop c) rfl (fun _ _=>.inl Os) harr⟩
   | goto l=>exact hq.elim
   | ret=>exact ⟨.ret,a₁,w₁,hq,.pass (x:=.inLoop c) rfl (fun _ _=>.inl Os) harr⟩
   | panic ch=>exact ⟨.panic ch,a₁,w₁,hq,.pass (x:=.inLoop c) rfl (fun _ _=>.inl Os) harr⟩
   | outgrown=>exact hq.elim
 obtain ⟨e,a',w',hq,harr⟩:=key _ x0 a w rfl (ha.sub hs) h0;exact ⟨e,a',w',hq,.of_steps (.one step_loop) harr⟩
theorem Jc{c:Code}{α:Type}(I:α→World→Prop)(σc:List Ent)(σf:α→List Ent)(μ:α→Nat)(x0:α)(h0:I x0 w)(hs:Sub (σf x0 ++ σc) σ)
  (round:∀ x w,I x w→SZ P B n c (fun a' w'=>∃ y,Kn n (σf y ++ σc) a'∧I y w'∧μ y < μ x) X T (σf x ++ σc) w):SZ P B n (.loop c) N X T σ w :=
 Xwa I (fun x=>σf x ++ σc) μ x0 h0 hs round
/-! ends of a function -/
theorem Use{fn:Func}{R:Value→World→Prop}(hr:fn.results = #[])(h:R (.tuple #[]) w):∀ a,Kn n σ a→bodyPost P fn (fun e w'=>∃ v,e = .returned v∧R v w') .ret a w:=fun a ha =>
 bodyPost_ret (results_none hr _ _ _) ha.2.1 ⟨_,rfl,h⟩
theorem Yja{fn:Func}{R:Value→World→Prop}(hr:fn.results = #[])(h:R (.tuple #[]) w):∀ a,Kn n σ a→bodyPost P fn (fun e w'=>∃ v,e = .returned v∧R v w') .normal a w:=fun a ha =>
 bodyPost_end (results_none hr _ _ _) ha.2.1 ⟨_,rfl,h⟩
theorem Qe{fn:Func}{R:Value→World→Prop}{t:Nat}{v:Value}(hr:fn.results = #[.tmp t])(hl:look σ t=some (True,v))(h:R v w):∀ a,Kn n σ a→bodyPost P fn (fun e w'=>∃ v,e = .returned v∧R v w') .ret a w:=fun a ha =>
 bodyPost_ret (results_tmp hr _ _ _) ha.2.1 ⟨_,rfl,by have:=ha.at_ hl trivial;simp [this];exact h⟩
def resOf(us:List Value):Value:=if h:us.toArray.size=1 then us.toArray[0] else .tuple us.toArray
theorem Yqb{fn:Func}{R:Value→World→Prop}{ts:List Nat}{vs:List Value}(hr:fn.results=(ts.map ResultVar.tmp).toArray)(h2:Aaa ts.length 1=false)(hl:ts.map (look σ)=vs.map (fun v=>some (True,v)))(h:R (.tuple vs.toArray) w) :
 ∀ a,Kn n σ a→bodyPost P fn (fun e w'=>∃ v,e = .returned v∧R v w') .ret a w:=fun a ha=>by
 refine bodyPost_ret (v:=.tuple vs.toArray) ?_ ha.2.1 ⟨_,rfl,h⟩
 have hvs:∀ (ts:List Nat) (vs:List Value),ts.map (look σ)=vs.map (fun v=>some (True,v))→ts.map (fun t=>a.tmps.getD t undef)=vs:=by
  intro ts
  induction ts with
  | nil=>intro vs h;cases vs with
   | nil=>rfl
   | cons=>simp at h
  | cons t ts ih =>
   intro vs h
   cases vs with
   | nil=>simp at h
   | cons v vs =>
    simp only [Aza,List.cons.injEq] at h;have:=ha.at_ h.1 trivial;rw [Aza,ih vs h.2];simp [this]
 have hrun:∀ (ts:List Nat),(ts.mapM (fun t=>(pure (a.tmps.getD t undef):Sem Value))).run P w = .ok (ts.map fun t=>a.tmps.getD t undef) w:=by
  intro ts
  induction ts with
  | nil=>rfl
  | cons t ts ih =>
   rw [Bha];simp only [Sem.run_bind,Sem.run_pure,Result.andThen_ok] at ih ⊢;rw [ih];rfl
 have hres:(results fn a.tmps).run P w = .ok (resOf (ts.map fun t=>a.tmps.getD t undef)) w:=by
  unfold results;rw [hr,Bia];simp only [Sem.run_bind,Sem.run_map,List.mapM_map];have:=hrun ts;simp only [Function.comp_def];rw [this];rfl
 rw [hres,hvs ts vs hl];have hlen:vs.length=ts.length:=by have:=congrArg List.length hl;simpa using this.symm
 unfold resOf;rw [dif_neg (by simp only [Bda,hlen];intro he;rw [he] at h2;simp at h2)]
def argsK:Nat→List Value→List Ent
 | _,[]=>[]
 | k,v::vs=>(k,True,v)::argsK (k+1) vs
theorem Vca:∀ (vs:List Value) (k t:Nat) (c:Prop) (v:Value),look (argsK k vs) t=some (c,v)→c=True∧k≤t∧vs[t-k]? = some v
 | [],_,_,_,_,h=>by simp [argsK,look] at h
 | u::vs,k,t,c,v,h=>by
  unfold argsK look at h
  cases hq:Aaa k t with
  | true =>
   rw [hq] at h;obtain rfl:=Ada hq;simp only [cond_true] at h;injection h with h;injection h with e1 e2;subst e2;exact ⟨e1.symm,Ala _,by simp⟩
  | false =>
   rw [hq] at h;obtain ⟨h1,h2,h3⟩:=Vca vs (k+1) t c v h;refine ⟨h1,O,?_⟩;rw [show t-k=(t-(k+1))+1 by omega];simpa using h3
theorem Jj{f:FuncId}{fn:Func}{c:Code}{args:List Value}{R:Value→World→Prop}{m:Nat}(hf:P.funcs[f]? = some fn)(hb:fn.body=some c)(hm:args.length+(fn.ntmps-args.length)=m)
 (σ0:List Ent) (hs:Sub σ0 (argsK 0 args))
 (hh:SC P m c (fun a w=>bodyPost P fn (fun e w'=>∃ v,e = .returned v∧R v w') .normal a w) [] (fun a w=>bodyPost P fn (fun e w'=>∃ v,e = .returned v∧R v w') .ret a w)
 σ0 w):Ret P f args.toArray w R:=by
 unfold Ret;refine calls_of_wp hf hb (Code.wp_mono (fun e a w q=>?_) (hh _ (Kn.sub (σ:=argsK 0 args) ?_ hs)))
 cases e with
 | normal=>exact q
 | ret=>exact q
 | panic ch=>exact q.2.elim
 | _=>exact q.elim
 refine ⟨by simp [← hm],rfl,fun t c' v hl=>?_⟩;obtain ⟨rfl,_,h3⟩:=Vca args 0 t c' v hl;refine ⟨fun _=>?_,fun hn=>absurd trivial hn⟩;rw [Bka] at h3;have hlt:t<args.length:=(Ava.1 h3).1;simp [Bla,hlt,h3];simpa [hlt] using h3
end
section
variable {w w':World} {base:Nat} {e:TypeId} {z:Nat} {v:Value} {m:Nat} {xs:List Value}
theorem Yka(h:w.ownsRow base e z v m xs):∃ a c,v = .slice a m c∧m≤c:=by
 rcases h.2 with ⟨h1,h2⟩|⟨g,cap,cur,h1,_,_,h4,_⟩;subst h2;exact ⟨none,0,h1,Ala _⟩;exact ⟨_,cap,h1,h4⟩
theorem Ymg(h:w.ownsRow base e z v m xs){b o c:Nat}{k:Nat}(hv:v = .slice (some ⟨b,o,none⟩) k c):RowAt w b o xs∧o=0∧base≤b:=by
 rcases h.2 with ⟨h1,h2⟩|⟨g,cap,cur,h1,h2,h3,h4,h5,h6,h7⟩;rw [h1] at hv;injection hv with hv;cases hv;rw [h1] at hv;injection hv with hv _ _;injection hv with hv;injection hv with e1 e2 _;subst e1;subst e2;refine ⟨fun j u hj=>?_,rfl,h2⟩;have:=h.cells (g:=g) (by rw [h1];rfl) j u hj;rwa [Addr.add_lit] at this
theorem Vna(h:w.ownsRow base e z v m xs)(hm:0<m):∃ b c,v = .slice (some ⟨b,0,none⟩) m c∧m≤c∧RowAt w b 0 xs∧base≤b:=by
 rcases h.2 with ⟨_,h2⟩|⟨g,cap,cur,h1,h2,h3,h4,h5,h6,h7⟩;omega;obtain ⟨q1,_,q3⟩:=Ymg h h1;exact ⟨g,cap,h1,h4,q1,q3⟩
theorem Yl{row:Option Nat}(h:w.ownsRow base e z v m xs)(hg:w.grownBy w' row)(hne:v.ownBlock=none∨v.ownBlock≠row):w'.ownsRow base e z v m xs:=h.kept hg hne
theorem Xi(h:w.ownsRow base e z v m xs)(hg:G w w'):w'.ownsRow base e z v m xs:=h.kept (hg.only none) (by cases hv:v.ownBlock <;> simp)
theorem Xzd(h:w.ownsRow base e z v m xs):w.drew.ownsRow base e z v m xs:=h
theorem Ute{base':Nat}(h:w.ownsRow base e z v m xs)(hb:base'≤base):w.ownsRow base' e z v m xs:=by
 refine ⟨h.1,?_⟩;rcases h.2 with h1|⟨g,cap,cur,h1,h2,h3⟩;exact .inl h1;exact .inr ⟨g,cap,cur,h1,O,h3⟩
theorem Qu(w:World)(base:Nat)(e:TypeId)(z:Nat):w.ownsRow base e z (.slice none 0 0) 0 []:=World.ownsRow_nil w base e z
theorem Xda(h:G w w')(hb:base≤w.heap.size):Below base w w':=Below.mono h hb
theorem Jx{a:World}{row:Option Nat}(h:Below base a w)(hg:w.grownBy w' row)(hb:base≤w.heap.size)(hr:∀ k,row=some k→base≤k):Below base a w':=h.grown hg hb hr
theorem Wuc{a:World}{row:Option Nat}(h:G a w)(hg:w.grownBy w' row)(hr:∀ k,row=some k→a.heap.size≤k):G a w':=Below.grown h hg h.size hr
theorem Uwd(h:w.ownsRow base e z v m xs){b:Nat}(hb:w.heap.size≤b):v.ownBlock≠some b:=fun hv=>by
 have:=(h.lt b hv).2;omega
end
section
variable {P:Program} {n:Nat} {σ:List Ent} {c:Prop} {wb:World} {ty:TypeId} {v:Value}
/-! structs of Zid cells, compared -/
def Xub(P:Program)(t:TypeId):Option Nat:=match P.underlying t with
 | some (.int _)=>some 0
 | some .string=>some 1
 | some .bool=>some 2
 | _=>none
def Zjd(P:Program):Nat→List Field→Option (List Nat)
 | _,[]=>some []
 | k,f::fs=>if Aaa f.offset k&&f.name != "_" then match Xub P f.type,Zjd P (k+1) fs with
   | some a,some l=>some (a::l)
   | _,_=>none
  else none
def Zvc(P:Program)(t:TypeId):Option (List Nat):=match P.underlying t with
 | some (.struct fs)=>if P.stoodInHeld t=false∧P.eqGuardType P.depth t=false then Zjd P 0 fs.toList else none
 | _=>none
def eqL:List Nat→List Value→List Value→Option Bool
 | [],[],[]=>some true
 | 0::ks,.int k a::l,.int k' b::l'=>if k=k' then match eqL ks l l' with|some r=>some (decide (a=b)&&r)|none=>none else none
 | 1::ks,.string a::l,.string b::l'=>match eqL ks l l' with|some r=>some (decide (a.data.toList=b.data.toList)&&r)|none=>none
 | 2::ks,.bool a::l,.bool b::l'=>match eqL ks l l' with|some r=>some (a == b&&r)|none=>none
 | _,_,_=>none
theorem Wvc{t:TypeId}(ht:Up P t=true){cs:Array Value}{o:Nat}{v:Value}(hv:cs[o]? = some v)(w:World):(part t cs o).run P w = .ok v w:=by
 have:(isAgg t).run P w = .ok false w:=by
  unfold Up at ht;split at ht <;> try (cases ht;done)
  rename_i d hd1 hd2 hd;simp only [isAgg,Sem.run_bind,run_underlying hd,Result.andThen_ok];cases d <;> simp_all
 simp [part,this,hv]
theorem Uue{t:TypeId}{k:Nat}(h:Xub P t=some k):Up P t=true:=by
 unfold Xub at h;unfold Up;split at h <;> simp_all
theorem eqL_0{u u':Value}{b:Bool}(he:eqL [0] [u] [u']=some b):∃ k a a',u = .int k a∧u' = .int k a'∧b=decide (a=a'):=by
 unfold eqL at he;split at he;rename_i h1 _ _;cases h1;rename_i h1 h2 h3;injection h2 with h2 h2';injection h3 with h3 h3';injection h1 with h0 h1';subst h2' h3' h2 h3 h1';split at he;rename_i hk;subst hk;simp [eqL] at he;exact ⟨_,_,_,rfl,rfl,he.symm⟩;cases he;rename_i h1 _ _;cases h1;rename_i h1 _ _;cases h1;cases he
theorem eqL_1{u u':Value}{b:Bool}(he:eqL [1] [u] [u']=some b):∃ a a',u = .string a∧u' = .string a'∧b=decide (a.data.toList=a'.data.toList):=by
 unfold eqL at he;split at he;rename_i h1 _ _;cases h1;rename_i h1 _ _;cases h1;rename_i h1 h2 h3;injection h2 with h2 h2';injection h3 with h3 h3';injection h1 with h0 h1';subst h2' h3' h2 h3 h1';simp only [eqL,Bool.and_true,Option.some.injEq] at he;exact ⟨_,_,rfl,rfl,he.symm⟩;rename_i h1 _ _;cases h1;cases he
theorem eqL_2{u u':Value}{b:Bool}(he:eqL [2] [u] [u']=some b):∃ a a',u = .bool a∧u' = .bool a'∧b=(a == a'):=by
 unfold eqL at he;split at he;rename_i h1 _ _;cases h1;rename_i h1 _ _;cases h1;rename_i h1 _ _;cases h1;rename_i h1 h2 h3;injection h2 with h2 h2';injection h3 with h3 h3';injection h1 with h0 h1';subst h2' h3' h2 h3 h1';simp only [eqL,Bool.and_true,Option.some.injEq] at he;exact ⟨_,_,rfl,rfl,he.symm⟩;cases he
theorem Wae{t:TypeId}{k d:Nat}(h:Xub P t=some k){u u':Value}{b:Bool}(he:eqL [k] [u] [u']=some b)(w:World):(Op.equalIn (d+1) t u u').run P w = .ok b w:=by
 unfold Xub at h;split at h <;> try (cases h;done)
 ·rename_i k0 hu
  injection h with h;subst h;obtain ⟨k,a,a',rfl,rfl,rfl⟩:=eqL_0 he;rw [run_equalIn_int w d t _ k0 _ _ hu];congr 1
 ·rename_i hu
  injection h with h;subst h;obtain ⟨a,a',rfl,rfl,rfl⟩:=eqL_1 he;rw [run_equalIn_string w d t _ _ hu];congr 1;rw [ByteArray.toList_eq,ByteArray.toList_eq];rw [Bta];simp
 ·rename_i hu
  injection h with h;subst h;obtain ⟨a,a',rfl,rfl,rfl⟩:=eqL_2 he;rw [run_equalIn_bool' w d t _ _ hu]
theorem Uve{k:Nat}{ks:List Nat}{l l':List Value}{b:Bool}(h:eqL (k::ks) l l'=some b):∃ u u' r r' b1 b2,l=u::r∧l'=u'::r'∧eqL [k] [u] [u']=some b1∧eqL ks r r'=some b2∧b=(b1&&b2):=by
 unfold eqL at h;split at h;rename_i h1;cases h1;rename_i h1;injection h1 with h1 h1';subst h1 h1';split at h;rename_i hk;subst hk;split at h;rename_i r hr;injection h with h;exact ⟨_,_,_,_,_,r,rfl,rfl,by simp [eqL],hr,h.symm⟩;cases h;cases h;rename_i h1;injection h1 with h1 h1';subst h1 h1';split at h;rename_i r hr;injection h with h;exact ⟨_,_,_,_,_,r,rfl,rfl,by simp [eqL],hr,h.symm⟩;cases h;rename_i h1;injection h1 with h1 h1';subst h1 h1';split at h;rename_i r hr;injection h with h;exact ⟨_,_,_,_,_,r,rfl,rfl,by simp [eqL],hr,h.symm⟩;cases h;cases h
theorem Wwc(d:Nat):∀ (fs:List Field) (ks:List Nat) (k:Nat) (l l':List Value) (pre pre':List Value) (b:Bool),Zjd P k fs=some ks→pre.length=k→pre'.length=k→eqL ks l l'=some b→
  ∀ w,(Op.eqFields (d+1) (pre++l).toArray (pre'++l').toArray fs).run P w = .ok b w
 | [],ks,k,l,l',pre,pre',b,hf,h1,h2,he,w=>by
  injection hf with hf;subst hf;unfold eqL at he;split at he <;> simp_all [Op.eqFields]
 | f::fs,ks,k,l,l',pre,pre',b,hf,h1,h2,he,w=>by
  unfold Zjd at hf;split at hf;rename_i hc;simp only [Aca,bne_iff_ne,ne_eq] at hc;have hc:=And.intro (Ada hc.1) hc.2;split at hf;rename_i a ls ha hls;injection hf with hf;subst hf;obtain ⟨u,u',r,r',b1,b2,rfl,rfl,e1,e2,rfl⟩:=Uve he;have ho:=Uue ha;have g1:(pre++u::r).toArray[f.offset]? = some u:=by simp [hc.1,← h1]
  have g2:(pre'++u'::r').toArray[f.offset]? = some u':=by simp [hc.1,← h2]
  have ih:=Wwc d fs ls (k+1) r r' (pre++[u]) (pre'++[u']) b2 hls (by simp [h1]) (by simp [h2]) e2 w;rw [Baa,Baa,Cga,Cga] at ih;simp only [Op.eqFields,if_pos hc.2,Sem.run_bind,Wvc ho g1,Wvc ho g2,Result.andThen_ok,Wae ha e1];cases b1;simp;simpa using ih;cases hf;cases hf
theorem Zda{t u:TypeId}{x y:Operand}{ks:List Nat}{l l':List Value}{b:Bool}(ht:Zvc P t=some ks)(h:Ev n σ c x (.agg l.toArray))(h':Ev n σ c y (.agg l'.toArray))(he:eqL ks l l'=some b):Rd P n σ c wb (.binOp .eql t x y u) ty (.bool b):=.mk fun d pos after gd a ha hc w1 _=>by
 unfold Zvc at ht;split at ht;rename_i fs hfs;split at ht;rename_i hk;have hfo:P.fieldsOf t=fs:=by simp [Program.fieldsOf,hfs]
 have k2:=run_equalIn_struct w1 9999 t l.toArray l'.toArray (by rw [hfo];exact hfs) hk.1;have k3:=Wwc 9998 fs.toList ks 0 l l' [] [] b ht rfl rfl he w1;simp only [Bxa] at k3;rw [hfo,k3] at k2;simp [execOp,h a ha hc,h' a ha hc,run_eqGuard_agg w1 .eql t x y l.toArray l'.toArray hk.2,run_eql_struct,k2];cases ht;cases ht
theorem Zkd{t u:TypeId}{x y:Operand}{ks:List Nat}{l l':List Value}{b:Bool}(ht:Zvc P t=some ks)(h:Ev n σ c x (.agg l.toArray))(h':Ev n σ c y (.agg l'.toArray))(he:eqL ks l l'=some b):Rd P n σ c wb (.binOp .neq t x y u) ty (.bool (!b)):=.mk fun d pos after gd a ha hc w1 _=>by
 unfold Zvc at ht;split at ht;rename_i fs hfs;split at ht;rename_i hk;have hfo:P.fieldsOf t=fs:=by simp [Program.fieldsOf,hfs]
 have k2:=run_equalIn_struct w1 9999 t l.toArray l'.toArray (by rw [hfo];exact hfs) hk.1;have k3:=Wwc 9998 fs.toList ks 0 l l' [] [] b ht rfl rfl he w1;simp only [Bxa] at k3;rw [hfo,k3] at k2;simp [execOp,h a ha hc,h' a ha hc,run_eqGuard_agg w1 .neq t x y l.toArray l'.toArray hk.2,run_neq_struct,k2];cases ht;cases ht
/-! an array's element, by value -/
def Zld(P:Program)(t:TypeId):Option Nat:=match P.underlying t with
 | some (.array m e)=>if Up P e=true∧tySize P e=some 1 then some m else none
 | _=>none
theorem Zqe{t m:Nat}{x y:Operand}{cs:Array Value}{k:IntKind}{i:Int}{v:Value}(ht:Zld P t=some m)(h:Ev n σ c x (.agg cs))(h':Ev n σ c y (.int k i))(hi:c→0≤i∧i<m)(hv:c→cs[i.toNat]? = some v) :
 Rd P n σ c wb (.index t x y) ty v:=.mk fun d pos after gd a ha hc w1 _=>by
 obtain ⟨h0,h1⟩:=hi hc;unfold Zld at ht;split at ht;rename_i m' e hu;split at ht;rename_i hk;injection ht with ht;subst ht;obtain ⟨ho,hz⟩:=hk;unfold tySize at hz
 cases hi2:P.info? e with
 | none=>rw [hi2] at hz;cases hz
 | some inf =>
  rw [hi2] at hz;injection hz with hz
  have hs:(sizeOf e).run P w1 = .ok 1 w1:=by
   have:=hz;simp [sizeOf,typeInfo,run_program,hi2,hz]
  simp [execOp,h a ha hc,h' a ha hc,Instr.index,asIntOf,run_underlying hu,h0,h1,hs,Wvc ho (hv hc)]
 cases ht;cases ht
/-! nil -/
def nilV:Value→Bool
 | .nilIface=>true
 | _=>false
theorem Uxd{t u:TypeId}{x:Operand}{e:Value}(ht:P.isIface t=true)(h:Ev n σ c x e)(he:e = .nilIface∨∃ a b,e = .iface a b):Rd P n σ c wb (.binOp .neq t x (.const .nilIface) u) ty (.bool (!nilV e)):=.mk fun d pos after gd a ha hc w1 _=>by
 rcases he with rfl|⟨t1,u1,rfl⟩;simp [execOp,h a ha hc,Yob,eqGuard,binOp,Op.equal,Op.maxDepth,run_equalIn_nil_nil_at w1 9999 t ht,nilV];simp [execOp,h a ha hc,Yob,eqGuard,binOp,Op.equal,Op.maxDepth,run_equalIn_iface_nil w1 9999 t ht,nilV]
/-! slices of slices -/
theorem Wxc{e:TypeId}{i:TypeInfo}(hi:P.info? e=some i)(w:World):(sizeOf e).run P w = .ok i.size w:=by simp [sizeOf,typeInfo,run_program,hi]
theorem Jcb{t e z by_:Nat}{x y:Operand}{o:Option Addr}{m q:Nat}{k:IntKind}{j:Int}(ht:tyElem P t=some (e,z,by_))(h:Ev n σ c x (.slice o m q))(h':Ev n σ c y (.int k j))(hi:c→0≤j∧j≤q) :
 Rd P n σ c wb (.slice t x none (some y) none) ty (.slice o j.toNat q):=.mk fun d pos after gd a ha hc w1 _=>by
 obtain ⟨hu,i,hin,hz,_⟩:=Jh ht;have e1:=hi hc;have e2:o.map (fun b=>Addr.add b 0)=o:=by cases o <;> simp [Addr.add]
 simp only [execOp,h a ha hc,h' a ha hc,Instr.sliceAt,Aua,Aya,Sem.run_bind,run_underlying hu,Result.andThen_ok];simp [Instr.slice,run_underlying hu,Instr.sliceBounds,Instr.sliceBound,asIntOf,e1,Wxc hin,e2]
theorem Yrb{t e z by_:Nat}{x y:Operand}{b off:Nat}{m q:Nat}{k:IntKind}{i:Int}(ht:tyElem P t=some (e,z,by_))(h:Ev n σ c x (.slice (some ⟨b,off,none⟩) m q))(h':Ev n σ c y (.int k i))(hi:c→0≤i∧i≤m) :
 Rd P n σ c wb (.slice t x (some y) none none) ty (.slice (some ⟨b,if q=i.toNat then off else off+i.toNat*z,none⟩) (m-i.toNat) (q-i.toNat)):=.mk fun d pos after gd a ha hc w1 _=>by
 obtain ⟨hu,inf,hin,hz,_⟩:=Jh ht;have e1:=hi hc;simp only [execOp,h a ha hc,h' a ha hc,Instr.sliceAt,Aua,Aya,Sem.run_bind,run_underlying hu,Result.andThen_ok];simp [Instr.slice,run_underlying hu,Instr.sliceBounds,Instr.sliceBound,asIntOf,e1,Wxc hin,hz];split <;> simp [Addr.add]
theorem Jdb{f:FuncId}{fs cs:Array Operand}{vs us:List Value}(h:Vba n σ c fs.toList vs)(h':Vba n σ c cs.toList us):Rd P n σ c wb (.makeFunc (.func f) fs cs) ty (.func (.func f) vs.toArray us.toArray):=.mk fun d pos after gd a ha hc w1 _=>by
 have e1:=h a ha hc;have e2:=h' a ha hc;have e3:fs.map a.eval=vs.toArray:=by rw [← e1,← Array.toList_map,Bwa]
 have e4:cs.map a.eval=us.toArray:=by rw [← e2,← Array.toList_map,Bwa]
 simp [execOp,Instr.makeFunc,e3,e4]
def Zwc(P:Program)(t:TypeId):Bool:=match P.underlying t with|some (.interface _)=>false|some _=>true|none=>false
theorem Uwe{t:TypeId}{x:Operand}{u:Value}(ht:Zwc P t=true)(h:Ev n σ c x u):Rd P n σ c wb (.makeInterface t x) ty (.iface t u):=.mk fun d pos after gd a ha hc w1 _=>by
 unfold Zwc at ht;split at ht <;> try (cases ht;done)
 rename_i d' hd1 hd;simp only [execOp,h a ha hc,Instr.makeInterface,Sem.run_bind,run_underlying hd,Result.andThen_ok];cases d' <;> simp_all
/-! numbers of other sizes -/
def Jeb(P:Program)(t:TypeId):Option IntKind:=match P.underlying t with|some (.int k)=>some k|_=>none
theorem Xvb{t:TypeId}{k:IntKind}(h:Jeb P t=some k):P.underlying t=some (.int k):=by
 unfold Jeb at h;split at h;rename_i k' hk;injection h with h;subst h;exact hk;cases h
theorem Zmd{s t:TypeId}{x:Operand}{k k1 k2:IntKind}{i:Int}(hs:Jeb P s=some k1)(ht:Jeb P t=some k2)(h:Ev n σ c x (.int k i)):Rd P n σ c wb (.convert s t x) ty (.int k2 (k2.wrap i)):=.mk fun d pos after gd a ha hc w1 _=>by
 simp [execOp,h a ha hc,convert,run_underlying (Xvb hs),run_underlying (Xvb ht),Conv.intToInt]
theorem Wad{s t:TypeId}{x:Operand}{k k1 k2:IntKind}{i r:Int}(hs:Jeb P s=some k1)(ht:Jeb P t=some k2)(h:Ev n σ c x (.int k i))(hr:c→k2.wrap i=r):Rd P n σ c wb (.convert s t x) ty (.int k2 r):=.mk fun d pos after gd a ha hc w1 hg=>by
 have:=Zmd (wb:=wb) (ty:=ty) hs ht h d pos after gd a ha hc w1 hg;rw [hr hc] at this;exact this
theorem Zre{t u:TypeId}{x y:Operand}{k:IntKind}{i j r:Int}(h:Ev n σ c x (.int k i))(h':Ev n σ c y (.int k j))(hr:c→k.wrap (i+j)=r):Rd P n σ c wb (.binOp .add t x y u) ty (.int k r):=.mk fun d pos after gd a ha hc w1 hg=>by
 have:=Vbf (P:=P) (t:=t) (u:=u) (wb:=wb) (ty:=ty) h h' d pos after gd a ha hc w1 hg;rw [hr hc] at this;exact this
theorem Jfb{t u:TypeId}{x y:Operand}{k:IntKind}{i j r:Int}(h:Ev n σ c x (.int k i))(h':Ev n σ c y (.int k j))(hr:c→k.wrap (i-j)=r):Rd P n σ c wb (.binOp .sub t x y u) ty (.int k r):=.mk fun d pos after gd a ha hc w1 hg=>by
 have:=Vcf (P:=P) (t:=t) (u:=u) (wb:=wb) (ty:=ty) h h' d pos after gd a ha hc w1 hg;rw [hr hc] at this;exact this
theorem Zse{t u:TypeId}{x y:Operand}{k:IntKind}{i j r:Int}(h:Ev n σ c x (.int k i))(h':Ev n σ c y (.int k j))(hr:c→k.wrap (i*j)=r):Rd P n σ c wb (.binOp .mul t x y u) ty (.int k r):=.mk fun d pos after gd a ha hc w1 hg=>by
 have:=Vdf (P:=P) (t:=t) (u:=u) (wb:=wb) (ty:=ty) h h' d pos after gd a ha hc w1 hg;rw [hr hc] at this;exact this
theorem Zxc{x:Int}(h:0≤x∧x≤18446744073709551615):IntKind.u64.wrap x=x:=by
 have:x % 18446744073709551616=x:=Int.emod_eq_of_lt h.1 O;simpa [IntKind.wrap,IntKind.bits,IntKind.signed] using this
theorem Zqg{x:Int}(h:0≤x∧x≤255):IntKind.u8.wrap x=x:=by
 have:x % 256=x:=Int.emod_eq_of_lt h.1 O;simpa [IntKind.wrap,IntKind.bits,IntKind.signed] using this
/-! results that lie in cells -/
def rdRes(tmps:Array Value):ResultVar→Sem Value
 | .tmp t=>pure (tmps.getD t undef)
 | .cell a t=>do loadVar t (← asAddr (tmps.getD a undef))
def EvR(P:Program)(n:Nat)(σ:List Ent)(w:World)(rs:List ResultVar)(vs:List Value):Prop:=∀ a,Kn n σ a→(rs.mapM (rdRes a.tmps)).run P w = .ok vs w
theorem Ug{w:World}:EvR P n σ w [] []:=fun _ _=>rfl
theorem Wyc{w:World}{r:ResultVar}{rs:List ResultVar}{vs:List Value}(h:∀ a,Kn n σ a→(rdRes a.tmps r).run P w = .ok v w)(k:EvR P n σ w rs vs):EvR P n σ w (r::rs) (v::vs):=fun a ha=>by
 have h1:=h a ha;have h2:=k a ha;rw [Bha];simp only [Sem.run_bind,Sem.run_pure,h1,h2,Result.andThen_ok]
theorem Wua{w:World}{t:Nat}{rs:List ResultVar}{vs:List Value}(h:look σ t=some (True,v))(k:EvR P n σ w rs vs):EvR P n σ w (.tmp t::rs) (v::vs):=Wyc (fun a ha=>by
 have:=ha.at_ h trivial;simp [rdRes,this]) k
theorem Zba{w:World}{t b o z:Nat}{T:TypeId}{l:List Value}{rs:List ResultVar}{vs:List Value}(h:look σ t=some (True,.pointer (some ⟨b,o,none⟩)))(ht:Xqa P T=some z)(hl:l.length=z)(hc:RowAt w b o l)(k:EvR P n σ w rs vs):EvR P n σ w (.cell t T::rs) (.agg l.toArray::vs):=Wyc (fun a ha=>by
 have:=ha.at_ h trivial;have h2:=Xjc ht hl hc;simp [rdRes,this,asAddr,h2]) k
theorem Qfb{w:World}{t b o:Nat}{T:TypeId}{rs:List ResultVar}{vs:List Value}(h:look σ t=some (True,.pointer (some ⟨b,o,none⟩)))(ht:Up P T=true)(hc:w.cell? ⟨b,o,none⟩=some v)(k:EvR P n σ w rs vs):EvR P n σ w (.cell t T::rs) (v::vs):=Wyc (fun a ha=>by
 have:=ha.at_ h trivial;have h2:=Xic ht hc;simp [rdRes,this,asAddr,h2]) k
theorem Zma{fn:Func}{R:Value→World→Prop}{w:World}{rs:List ResultVar}{vs:List Value}(hr:fn.results=rs.toArray)(h2:Aaa rs.length 1=false)(hl:EvR P n σ w rs vs)(hlen:vs.length=rs.length)(h:R (.tuple vs.toArray) w) :
 ∀ a,Kn n σ a→bodyPost P fn (fun e w'=>∃ v,e = .returned v∧R v w') .ret a w:=fun a ha=>by
 refine bodyPost_ret (v:=.tuple vs.toArray) ?_ ha.2.1 ⟨_,rfl,h⟩;have h1:=hl a ha
 have hres:results fn a.tmps=(do let vs ← fn.results.mapM (rdRes a.tmps);pure (if h:vs.size=1 then vs[0] else .tuple vs)):=by
  unfold results;congr 1
 rw [hres,hr,Bia];simp only [Sem.run_bind,Sem.run_map,h1,Result.andThen_ok];have hn:vs.length≠1:=by rw [hlen];intro he;rw [he] at h2;cases h2
 simp [hn]
theorem Qga{fn:Func}{R:Value→World→Prop}{w:World}{r:ResultVar}(hr:fn.results = #[r])(hl:EvR P n σ w [r] [v])(h:R v w) :
 ∀ a,Kn n σ a→bodyPost P fn (fun e w'=>∃ v,e = .returned v∧R v w') .ret a w:=fun a ha=>by
 refine bodyPost_ret (v:=v) ?_ ha.2.1 ⟨_,rfl,h⟩;have h1:=hl a ha
 have hres:results fn a.tmps=(do let vs ← fn.results.mapM (rdRes a.tmps);pure (if h:vs.size=1 then vs[0] else .tuple vs)):=by
  unfold results;congr 1
 rw [hres,hr,Bia];simp only [Sem.run_bind,Sem.run_map,h1,Result.andThen_ok];simp
end
structure RelX where
  r:World→World→Prop
  refl:∀ w,r w w
  trans:∀ {a b c:World},r a b→r b c→r a c
@[reducible] def rowR(row:Option Nat):RelX:=⟨fun w w'=>w.grownBy w' row,fun w=>(G.refl w).only row,fun h k=>Zgb h k⟩
abbrev GX(row:RelX)(w w':World):Prop:=row.r w w'
theorem GX.refl(row:RelX)(w:World):GX row w w:=row.refl w
def EffQ(P:Program)(Z:List PanicEntry→Act→World→Prop)(row:RelX)(gr:Bool)(o:Oper)(a:Act)(w:World)(next:Act→World→Prop):Prop :=
 (∃ v w',(execOp a.eval o).run P w = .ok (.value v) w'∧(gr=true→GX row w w')∧next (a.put o.dst v) w')∨
 (∃ w',(execOp a.eval o).run P w = .ok .skip w'∧(gr=true→GX row w w')∧next (a.put o.dst undef) w')∨
 (∃ f args,(execOp a.eval o).run P w = .ok (.enter f args) w∧Calls P f args w fun e w'=>(∃ v,e = .returned v∧(gr=true→GX row w w')∧next (a.put o.dst v) w')∨(∃ ch,e = .panicked ch∧Z ch a w'))∨
 (∃ l f tmps asg body,(execOp a.eval o).run P w = .ok (.round l f tmps asg body) w∧RoundIn Fence.wide 0 P l f tmps asg body w fun e w'=>∃ v,e = .returned v∧(gr=true→GX row w w')∧next (a.put o.dst v) w')
theorem EffQ.wpIn{P:Program}{Z:List PanicEntry→Act→World→Prop}{row:RelX}{gr:Bool}{o:Oper}{a:Act}{w:World}{next:Act→World→Prop}{Q:Exit→Act→World→Prop}{ρ:Option Nat}
 (h:EffQ P Z row gr o a w next) (hZ:∀ ch w',Z ch a w'→Q (.panic ch) a w'):o.wpIn (WF ρ) 0 P a w next Q:=by
 refine Eff.wpIn (Z:=Z) (gr:=false) ?_ hZ;rcases h with ⟨v,w',hr,_,hn⟩|⟨w',hr,_,hn⟩|⟨f,args,hr,hc⟩|⟨l,f,tmps,asg,body,hr,hc⟩;exact .inl ⟨v,w',hr,(fun h=>by cases h),hn⟩;exact .inr (.inl ⟨w',hr,(fun h=>by cases h),hn⟩);refine .inr (.inr (.inl ⟨f,args,hr,Calls.mono hc fun e w' h=>?_⟩));rcases h with ⟨v,e1,_,h1⟩|⟨ch,e1,h1⟩;exact .inl ⟨v,e1,(fun h=>by cases h),h1⟩;exact .inr ⟨ch,e1,h1⟩;refine .inr (.inr (.inr ⟨l,f,tmps,asg,body,hr,RoundIn.mono hc fun e w' h=>?_⟩));obtain ⟨v,e1,_,h1⟩:=h;exact ⟨v,e1,(fun h=>by cases h),h1⟩
theorem EffQ.turn{P:Program}{Z Z':List PanicEntry→Act→World→Prop}{row:RelX}{gr:Bool}{o:Oper}{a b:Act}{w:World}{next next':Act→World→Prop}(he:execOp b.eval o=execOp a.eval o)
 (hz:∀ ch w',Z ch a w'→Z' ch b w')
 (hn:∀ v w',(gr=true→GX row w w')→next (a.put o.dst v) w'→next' (b.put o.dst v) w') (h:EffQ P Z row gr o a w next):EffQ P Z' row gr o b w next':=by
 rcases h with ⟨v,w',hr,hg,h1⟩|⟨w',hr,hg,h1⟩|⟨f,args,hr,hc⟩|⟨l,f,tmps,asg,body,hr,hc⟩;exact .inl ⟨v,w',by rw [he];exact hr,hg,hn _ _ hg h1⟩;exact .inr (.inl ⟨w',by rw [he];exact hr,hg,hn _ _ hg h1⟩);refine .inr (.inr (.inl ⟨f,args,by rw [he];exact hr,Calls.mono hc fun e w' h=>?_⟩));rcases h with ⟨v,e1,hg,h1⟩|⟨ch,e1,h1⟩;exact .inl ⟨v,e1,hg,hn _ _ hg h1⟩;exact .inr ⟨ch,e1,hz _ _ h1⟩;refine .inr (.inr (.inr ⟨l,f,tmps,asg,body,by rw [he];exact hr,RoundIn.mono hc fun e w' h=>?_⟩));obtain ⟨v,e1,hg,h1⟩:=h;exact ⟨v,e1,hg,hn _ _ hg h1⟩
def Avail(wt:Nat→Nat→Bool)(L:List Nat)(j:Nat):Prop:=∀ i∈L,wt j i=false
section
variable (P:Program) (Z:List PanicEntry→Act→World→Prop) (ops:Array Oper) (cl:Nat→Nat) (wt:Nat→Nat→Bool) (row:RelX) (K:Act→World→Prop)
def RT:Nat→List Nat→Act→World→Prop
 | 0,L,a,w=>L=[]∧K a w
 | n+1,L,a,w =>
  (∃ r,r∈L∧Avail wt L r∧(cl r=0∨cl r=3)∧∃ o,ops[r]? = some o∧∃ v,(Region.wanted o (yielded ops a.tmps)=true→∀ w1,cl r=3∨GX row w w1→(execOp a.eval o).run P w1 = .ok (.value v) w1)∧
   (Region.wanted o (yielded ops a.tmps)=false→v=undef)∧RT n (L.erase r) (a.put o.dst v) w)∨
  ((∀ r∈L,Avail wt L r→¬ (cl r=0∨cl r=3))∧∀ j∈L,Avail wt L j→∃ o,ops[j]? = some o∧
   if Region.wanted o (yielded ops a.tmps)=true then EffQ P Z row (cl j == 1) o a w (fun a' w'=>RT n (L.erase j) a' w') else RT n (L.erase j) (a.put o.dst undef) w)
end
section
variable {P:Program} {Z:List PanicEntry→Act→World→Prop} {ops:Array Oper} {cl:Nat→Nat} {wt:Nat→Nat→Bool} {row:RelX} {K:Act→World→Prop}
structure OkayT (ops:Array Oper) (cl:Nat→Nat) (wt:Nat→Nat→Bool):Prop where
  sel:∀ (j:Nat) (o:Oper) cs b,ops[j]? = some o→o.op≠.select cs b
  way:∀ (j:Nat) (o:Oper) (i:Nat),ops[j]? = some o→wt j i=true→∃ e,e∈o.after∧Region.binds .any e=true∧(e.on=i∨wt e.on i=true)
  lt:∀ (j:Nat) (o:Oper) (e:Edge),ops[j]? = some o→e∈o.after→Region.binds .any e=true→e.on<j
  pair:∀ (i j:Nat) (oi oj:Oper),i<j→ops[i]? = some oi→ops[j]? = some oj→wt j i=false→(¬ (cl i=0∨cl i=3)∧¬ (cl j=0∨cl j=3))∨(oi.apart ops oj=true∧(cl i=3∨cl j=3∨(cl i=0∧cl j≤1)∨(cl j=0∧cl i≤1)))
theorem OkayT.both(ok:OkayT ops cl wt){r j:Nat}{or oj:Oper}(hr:ops[r]? = some or)(hj:ops[j]? = some oj)(hne:r≠j)(h1:wt r j=false)(h2:wt j r=false)(hc:cl r=0∨cl r=3) :
 ((∀ d,or.dst=some d→d∉oj.looksAt ops)∧(∀ d,or.dst=some d→oj.dst≠some d)∧(∀ d,oj.dst=some d→d∉or.looksAt ops))∧(cl r=3∨(cl r=0∧(cl j=3∨cl j≤1))):=by
 rcases Nat.lt_or_gt_of_ne hne with hlt|hlt;rcases ok.pair r j or oj hlt hr hj h2 with h|⟨h,hh⟩;exact absurd hc h.1;refine ⟨Oper.apart_spec h,?_⟩;rcases hc with hc|hc;right;refine ⟨hc,?_⟩;omega;exact .inl hc;rcases ok.pair j r oj or hlt hj hr h1 with h|⟨h,hh⟩;exact absurd hc h.2;obtain ⟨p1,p2,p3⟩:=Oper.apart_spec h;refine ⟨⟨p3,fun d hd he=>p2 d he hd,p1⟩,?_⟩;rcases hc with hc|hc;right;refine ⟨hc,?_⟩;omega;exact .inl hc
theorem Avail.erase{L:List Nat}{j r:Nat}(h:Avail wt L j):Avail wt (L.erase r) j:=fun i hi=>h i (Awa hi)
theorem Uxe{row:RelX}{a b c:World}(h:GX row a b)(k:GX row b c):GX row a c:=row.trans h k
theorem Wbe(ok:OkayT ops cl wt){j:Nat}{oj:Oper}(hj:ops[j]? = some oj)(hcj:cl j=0∨cl j=3) :
 ∀ (n:Nat) (L:List Nat) (a:Act) (w:World),L.length=n+1→L.Nodup→j∈L→Avail wt L j→RT P Z ops cl wt row K (n+1) L a w→
 ∃ v,(Region.wanted oj (yielded ops a.tmps)=true→∀ w1,cl j=3∨GX row w w1→(execOp a.eval oj).run P w1 = .ok (.value v) w1)∧
 (Region.wanted oj (yielded ops a.tmps)=false→v=undef)∧RT P Z ops cl wt row K n (L.erase j) (a.put oj.dst v) w:=by
 intro n
 induction n with
 | zero =>
  intro L a w hn nd hm hav h;obtain ⟨x,rfl⟩:∃ x,L=[x]:=Cha.1 hn;obtain rfl:j=x:=Asa.1 hm;rcases h with ⟨r,hr,hra,hc,o,ho,v,h1,h2,h3⟩|⟨hno,_⟩;obtain rfl:r=j:=Asa.1 hr;obtain rfl:o=oj:=Option.some.inj (ho.symm.trans hj);exact ⟨v,h1,h2,h3⟩;exact absurd hcj (hno j hm hav)
 | succ n ih =>
  intro L a w hn nd hm hav h;rcases h with ⟨r,hr,hra,hc,o,ho,u,h1,h2,h3⟩|⟨hno,_⟩;by_cases hrj:r=j;subst hrj;obtain rfl:o=oj:=Option.some.inj (ho.symm.trans hj);exact ⟨u,h1,h2,h3⟩;obtain ⟨⟨p1,p2,p3⟩,_⟩:=ok.both ho hj hrj (hra j hm) (hav r hr) hc;have evj:∀ v,execOp (a.put o.dst v).eval oj=execOp a.eval oj:=fun v=>execOp_put (ops:=ops) oj (fun cs b=>ok.sel j oj cs b hj) a o.dst v p1;have waj:∀ v,Region.wanted oj (yielded ops (a.put o.dst v).tmps)=Region.wanted oj (yielded ops a.tmps):=fun v=>wanted_put oj a o.dst v p1;have evi:∀ v,execOp (a.put oj.dst v).eval o=execOp a.eval o:=fun v=>execOp_put (ops:=ops) o (fun cs b=>ok.sel r o cs b ho) a oj.dst v p3;have wai:∀ v,Region.wanted o (yielded ops (a.put oj.dst v).tmps)=Region.wanted o (yielded ops a.tmps):=fun v=>wanted_put o a oj.dst v p3;have hmj:j∈L.erase r:=nd.mem_erase_iff.2 ⟨fun h=>hrj h.symm,hm⟩;have hmr:r∈L.erase j:=nd.mem_erase_iff.2 ⟨hrj,hr⟩;obtain ⟨v,k1,k2,k3⟩:=ih (L.erase r) _ w (by rw [Bca hr];omega) (nd.erase r) hmj hav.erase h3;rw [waj] at k1 k2;rw [evj] at k1;refine ⟨v,k1,k2,.inl ⟨r,hmr,hra.erase,hc,o,ho,u,?_,?_,?_⟩⟩;rw [wai,evi];exact h1;rw [wai];exact h2;rw [List.erase_comm,← Act.put_comm a u v p2];exact k3;exact absurd hcj (hno j hm hav)
theorem Uyd(hZs:∀ ch (a:Act) d v w,(∃ (i:Nat) (o:Oper),ops[i]? = some o∧o.dst=d)→Z ch (a.put d v) w→Z ch a w)(ok:OkayT ops cl wt){j:Nat}{oj:Oper}(hj:ops[j]? = some oj)(hcj:¬ (cl j=0∨cl j=3)) :
 ∀ (n:Nat) (L:List Nat) (a:Act) (w:World),L.length=n+1→L.Nodup→j∈L→Avail wt L j→RT P Z ops cl wt row K (n+1) L a w→
 if Region.wanted oj (yielded ops a.tmps)=true then EffQ P Z row (cl j == 1) oj a w (fun a' w'=>RT P Z ops cl wt row K n (L.erase j) a' w')
 else RT P Z ops cl wt row K n (L.erase j) (a.put oj.dst undef) w:=by
 intro n
 induction n with
 | zero =>
  intro L a w hn nd hm hav h;obtain ⟨x,rfl⟩:∃ x,L=[x]:=Cha.1 hn;obtain rfl:j=x:=Asa.1 hm;rcases h with ⟨r,hr,hra,hc,_⟩|⟨_,hall⟩;obtain rfl:r=j:=Asa.1 hr;exact absurd hc hcj;obtain ⟨o,ho,hb⟩:=hall j hm hav;obtain rfl:o=oj:=Option.some.inj (ho.symm.trans hj);exact hb
 | succ n ih =>
  intro L a w hn nd hm hav h;rcases h with ⟨r,hr,hra,hc,o,ho,u,h1,h2,h3⟩|⟨_,hall⟩;have hrj:r≠j:=fun e=>hcj (e▸hc);obtain ⟨⟨p1,p2,p3⟩,hq⟩:=ok.both ho hj hrj (hra j hm) (hav r hr) hc;have evj:∀ v,execOp (a.put o.dst v).eval oj=execOp a.eval oj:=fun v=>execOp_put (ops:=ops) oj (fun cs b=>ok.sel j oj cs b hj) a o.dst v p1;have waj:∀ v,Region.wanted oj (yielded ops (a.put o.dst v).tmps)=Region.wanted oj (yielded ops a.tmps):=fun v=>wanted_put oj a o.dst v p1;have evi:∀ v,execOp (a.put oj.dst v).eval o=execOp a.eval o:=fun v=>execOp_put (ops:=ops) o (fun cs b=>ok.sel r o cs b ho) a oj.dst v p3;have wai:∀ v,Region.wanted o (yielded ops (a.put oj.dst v).tmps)=Region.wanted o (yielded ops a.tmps):=fun v=>wanted_put o a oj.dst v p3;have hmj:j∈L.erase r:=nd.mem_erase_iff.2 ⟨fun h=>hrj h.symm,hm⟩;have hmr:r∈L.erase j:=nd.mem_erase_iff.2 ⟨hrj,hr⟩;have k:=ih (L.erase r) _ w (by rw [Bca hr];omega) (nd.erase r) hmj hav.erase h3;rw [waj] at k
  have back:∀ x w',(cl j=1→GX row w w')→RT P Z ops cl wt row K n ((L.erase r).erase j) ((a.put o.dst u).put oj.dst x) w'→RT P Z ops cl wt row K (n+1) (L.erase j) (a.put oj.dst x) w':=by
   intro x w' hg hk;refine .inl ⟨r,hmr,hra.erase,hc,o,ho,u,?_,?_,?_⟩;rw [wai,evi];intro hw w1 hg1;refine h1 hw w1 ?_;rcases hg1 with hg1|hg1;exact .inl hg1;rcases hq with hq|⟨_,hq⟩;exact .inl hq;refine .inr (Uxe (hg ?_) hg1);have:¬ cl j=0:=fun e=>hcj (.inl e);have:¬ cl j=3:=fun e=>hcj (.inr e);omega;rw [wai];exact h2;rw [List.erase_comm,← Act.put_comm a u x p2];exact hk
  by_cases hwj:Region.wanted oj (yielded ops a.tmps)=true;rw [if_pos hwj] at k ⊢;exact k.turn (evj u).symm (fun ch w' h=>hZs _ _ _ _ _ ⟨_,_,ho,rfl⟩ h) fun x w' hg hk=>back x w' (fun h=>hg (by simp [h])) hk;rw [if_neg hwj] at k ⊢;exact back _ _ (fun _=>GX.refl _ _) k;obtain ⟨o,ho,hb⟩:=hall j hm hav;obtain rfl:o=oj:=Option.some.inj (ho.symm.trans hj);exact hb
theorem Left.waitsT(ok:OkayT ops cl wt){L:List Nat}{listed:Array Bool}(hL:Left ops L listed) :
 ∀ (n j:Nat) (oj:Oper),j≤n→ops[j]? = some oj→(∀ e∈oj.after,Region.binds .any e=true→e.on∉L)→∀ i∈L,wt j i=false:=by
 intro n
 induction n with
 | zero =>
  intro j oj hjn hj _ i _
  cases hw:wt j i with
  | false=>rfl
  | true =>
   obtain ⟨e,he,hb,_⟩:=ok.way j oj i hj hw;have:=ok.lt j oj e hj he hb;omega
 | succ n ih =>
  intro j oj hjn hj hall i hi
  cases hw:wt j i with
  | false=>rfl
  | true =>
   obtain ⟨e,he,hb,hh⟩:=ok.way j oj i hj hw;have hlt:=ok.lt j oj e hj he hb;have hnot:=hall e he hb;rcases hh with rfl|hh;exact absurd hi hnot;have hes:e.on<ops.size:=by have:=(Ana.1 hj).1;omega
   have hoe:ops[e.on]? = some ops[e.on]:=Ara hes;have:=ih e.on _ O hoe (hL.closed e.on _ hoe hnot) i hi;rw [this] at hh;cases hh
theorem Wce{ρ:Option Nat}(hZs:∀ ch (a:Act) d v w,(∃ (i:Nat) (o:Oper),ops[i]? = some o∧o.dst=d)→Z ch (a.put d v) w→Z ch a w)(ok:OkayT ops cl wt){Q:Exit→Act→World→Prop}(hQ:∀ a w,K a w→Q .normal a w)(hZ:∀ ch a w,Z ch a w→Q (.panic ch) a w) :
 ∀ (n:Nat) (L:List Nat) (listed:Array Bool) (a:Act) (w:World),L.length=n→Left ops L listed→RT P Z ops cl wt row K n L a w→wpAnyIn (WF ρ) 0 P .any ops Q n listed a w:=by
 intro n
 induction n with
 | zero =>
  intro L listed a w hn hL h;obtain rfl:L=[]:=Caa hn;refine ⟨?_,hQ _ _ h.2⟩;refine Cba.2 fun j hj=>?_;obtain ⟨h0,o,ho,_⟩:=mem_ready.1 hj;have:=(hL.mem j).2 ⟨(Ana.1 ho).1,h0⟩;cases this
 | succ n ih =>
  intro L listed a w hn hL h;have nd:L.Nodup:=hL.sorted.imp (fun h=>Bna h)
  have inL:∀ j,j∈Region.ready .any ops listed→∃ oj,ops[j]? = some oj∧j∈L∧∀ e∈oj.after,Region.binds .any e=true→e.on∉L:=by
   intro j hj;obtain ⟨h0,oj,ho,hall⟩:=mem_ready.1 hj;have hjs:=(Ana.1 ho).1;refine ⟨oj,ho,(hL.mem j).2 ⟨hjs,h0⟩,fun e he hb hm=>?_⟩;have h1:=hall e he hb;obtain ⟨h2,h3⟩:=(hL.mem e.on).1 hm;have h4:e.on<listed.size:=by rw [hL.size];exact h2
   simp [h4] at h1 h3;rw [h1] at h3;cases h3
  refine ⟨fun h0=>?_,fun j hj=>?_⟩;exfalso
  match L,hn,hL with
  | i::rest,_,hL =>
   have him:=(hL.mem i).1 Aga;have hoi:ops[i]? = some ops[i]:=Ara him.1
   have:i∈Region.ready .any ops listed:=by
    refine mem_ready.2 ⟨him.2,_,hoi,fun e he hb=>?_⟩;have hlt:=ok.lt i _ e hoi he hb
    have hno:e.on∉i::rest:=by
     intro hm;rcases Aoa.1 hm with hm|hm;omega;have:=(Apa.1 hL.sorted).1 _ hm;omega
    have hes:e.on<listed.size:=by rw [hL.size];omega
    cases hl:listed.getD e.on true with
    | false=>exact absurd ((hL.mem e.on).2 ⟨by rw [← hL.size];exact hes,hl⟩) hno
    | true=>simpa [hes] using hl
   rw [h0] at this;cases this
  obtain ⟨oj,hoj,hjL,hall⟩:=inL j hj;have hws:∀ i∈L,wt j i=false:=hL.waitsT ok j j oj (Ala _) hoj hall;have hL':=hL.step hoj hall;have hlen:(L.erase j).length=n:=by rw [Bca hjL];omega
  unfold wpOpIn;simp only [hoj];by_cases hc:cl j=0∨cl j=3;obtain ⟨v,h1,h2,h3⟩:=Wbe ok hoj hc n L a w hn nd hjL hws h;have hnext:=ih (L.erase j) _ (a.put oj.dst v) w hlen hL' h3;by_cases hwj:Region.wanted oj (yielded ops a.tmps)=true;rw [if_pos hwj];have hr:=h1 hwj w (.inr (GX.refl _ _));refine ⟨fun _ _=>trivial,?_⟩;rw [Qya hr (fun d h=>by cases h),hr];exact hnext;rw [if_neg hwj];have:=h2 (by simpa using hwj);subst this;exact ⟨fun _ _=>trivial,hnext⟩;have h1:=Uyd hZs ok hoj hc n L a w hn nd hjL hws h;by_cases hwj:Region.wanted oj (yielded ops a.tmps)=true;rw [if_pos hwj] at h1 ⊢;refine EffQ.wpIn (Z:=Z) (gr:=cl j == 1) (row:=row) ?_ (fun ch w' h=>hZ _ _ _ h);exact h1.turn rfl (fun _ _ h=>h) fun v w' _ hk=>ih (L.erase j) _ _ w' hlen hL' hk;rw [if_neg hwj] at h1 ⊢;exact ⟨fun _ _=>trivial,ih (L.erase j) _ _ w hlen hL' h1⟩
theorem Qgb{ρ:Option Nat}(hZs:∀ ch (a:Act) d v w,(∃ (i:Nat) (o:Oper),ops[i]? = some o∧o.dst=d)→Z ch (a.put d v) w→Z ch a w)(ok:OkayT ops cl wt){id:Nat}{Q:Exit→Act→World→Prop}(hZ:∀ ch a w,Z ch a w→Q (.panic ch) a w){a:Act}{w:World}(hm:P.follows .mixedOrders=true)
 (h:RT P Z ops cl wt row (fun a w=>Q .normal a w) ops.size (Aea ops.size) a w.drew):(Code.region id ops true).wpIn (WF ρ) 0 P Q a w:=by
 refine wpIn_region_any hm ?_;have:=Wce (Q:=Q) (ρ:=ρ) hZs ok (fun _ _ h=>h) hZ ops.size (Aea ops.size) (Axa ops.size false) a w.drew Os (Wmc ops) h;simpa using this
end
/-! a look at the region's text -/
def Wzc(ops:Array Oper)(cl:List Nat)(ms:List Nat)(E:List (Nat×Oper×Nat))(k:Nat)(o:Oper):Bool :=
 Zme o&&o.after.toList.all (fun e=>!Region.binds .any e || Aba e.on k)&&Aaa (ms.getD k 0) (maskOf ms o.after.toList) &&
 E.all (fun p=>(ms.getD k 0).testBit p.1 || (!(Aaa p.2.2 0 || Aaa p.2.2 3) && !(Aaa (clOf cl k) 0 || Aaa (clOf cl k) 3)) || (p.2.1.apart ops o&&(Aaa p.2.2 3 || Aaa (clOf cl k) 3 || (Aaa p.2.2 0&&Aja (clOf cl k) 1) || (Aaa (clOf cl k) 0&&Aja p.2.2 1))))
def lookFromT(ops:Array Oper)(cl:List Nat)(ms:List Nat):List (Nat×Oper×Nat)→Nat→List Oper→Bool
 | _,_,[]=>true
 | E,k,o::rest=>Wzc ops cl ms E k o&&lookFromT ops cl ms ((k,o,clOf cl k)::E) (k+1) rest
def okT(l:List Oper)(cl:List Nat)(ms:List Nat):Bool:=lookFromT l.toArray cl ms [] 0 l&&Aja ms.length l.length
theorem Xwb(ops:Array Oper)(cl:List Nat)(ms:List Nat):∀ (l:List Oper) (E:List (Nat×Oper×Nat)) (k:Nat),
  (∀ j,l[j]? = ops[k+j]?)→(∀ i,i<k→∃ oi,ops[i]? = some oi∧(i,oi,clOf cl i)∈E)→lookFromT ops cl ms E k l=true→
  ∀ j oj,k≤j→ops[j]? = some oj→∃ E',(∀ i,i<j→∃ oi,ops[i]? = some oi∧(i,oi,clOf cl i)∈E')∧Wzc ops cl ms E' j oj=true
 | [],_,k,hl,_,_=>by
  intro j oj hkj hj;have:=hl (j-k);rw [show k+(j-k)=j by omega,hj] at this;simp at this
 | o::rest,E,k,hl,hE,h=>by
  intro j oj hkj hj;unfold lookFromT at h;rw [Aca] at h;have h0:ops[k]? = some o:=by simpa using (hl 0).symm
  by_cases hjk:j=k;subst hjk;obtain rfl:o=oj:=Option.some.inj (h0.symm.trans hj);exact ⟨E,hE,h.1⟩;refine Xwb ops cl ms rest ((k,o,clOf cl k)::E) (k+1) (fun j=>by have:=hl (j+1);simpa [Bpa,Nat.add_comm 1 j] using this) ?_ h.2 j oj O hj;intro i hi;by_cases hik:i=k;subst hik;exact ⟨o,h0,Aga⟩;obtain ⟨oi,h1,h2⟩:=hE i O;exact ⟨oi,h1,Ama _ h2⟩
theorem Vac{l:List Oper}{cl:List Nat}{ms:List Nat}(h:okT l cl ms=true):OkayT l.toArray (clOf cl) (wtOf ms):=by
 unfold okT at h;rw [Aca] at h;obtain ⟨h,hml⟩:=h;have S:=Xwb l.toArray cl ms l [] 0 Os (fun i hi=>absurd hi O) h;have at_:∀ j oj,l.toArray[j]? = some oj→∃ E',(∀ i,i<j→∃ oi,l.toArray[i]? = some oi∧(i,oi,clOf cl i)∈E')∧Wzc l.toArray cl ms E' j oj=true:=fun j oj hj=>S j oj (Nat.zero_le _) hj;refine ⟨?_,?_,?_,?_⟩;intro j o cs b hj heq;obtain ⟨E',_,hh⟩:=at_ j o hj;simp [Wzc,Zme,heq] at hh;intro j o i hj hw;obtain ⟨E',_,hh⟩:=at_ j o hj;simp only [Wzc,Aca] at hh;have hm:=Ada hh.1.2;unfold wtOf at hw;rw [hm] at hw;obtain ⟨e,h1,h2⟩:=Vib ms i _ hw;exact ⟨e,Bea.1 h1,h2⟩;intro j o e hj he hb;obtain ⟨E',_,hh⟩:=at_ j o hj;simp only [Wzc,Aca,Aia,Bea,Aqa,Bool.not_eq_true'] at hh;rcases hh.1.1.2 e he with h1|h1;rw [hb] at h1;cases h1;exact Aha h1;intro i j oi oj hij hi hj hw;obtain ⟨E',hE,hh⟩:=at_ j oj hj;simp only [Wzc,Aca,Aia] at hh;obtain ⟨oi',h1,h2⟩:=hE i hij;obtain rfl:oi'=oi:=Option.some.inj (h1.symm.trans hi);have h3:=hh.2 _ h2;unfold wtOf at hw;dsimp only at h3;rw [hw] at h3;have e:∀ (a b:Nat),Aaa a b=true↔a=b:=fun a b=>⟨Ada,fun h=>by subst h;exact Bfa a⟩;have e':∀ (a b:Nat),Aja a b=true↔a≤b:=fun a b=>⟨Aha,Cfa⟩;simp only [Bra,Aqa,Aca,Bool.not_eq_true',← Bool.not_eq_true,e,e'] at h3;rcases h3 with h3|⟨ha,h3⟩;exact .inl ⟨h3.1,h3.2⟩;refine .inr ⟨ha,?_⟩;rcases h3 with ((h3|h3)|h3)|h3;exact .inl h3;exact .inr (.inl h3);exact .inr (.inr (.inl h3));exact .inr (.inr (.inr h3))
/-! the steps -/
def isRdB(cl:List Nat)(j:Nat):Bool:=Aaa (clOf cl j) 0 || Aaa (clOf cl j) 3
def availB(ms:List Nat)(L:List Nat)(j:Nat):Bool:=L.all fun i=>!(wtOf ms j i)
def candB(cl ms L:List Nat):List Nat:=L.filter fun j=>availB ms L j
theorem Qta(ms:List Nat)(L:List Nat)(j:Nat):availB ms L j=true↔Avail (wtOf ms) L j:=by
 unfold availB Avail;simp [Aia]
theorem Wde(cl:List Nat)(j:Nat):isRdB cl j=true↔(clOf cl j=0∨clOf cl j=3):=by
 unfold isRdB;rw [Aqa];exact ⟨fun h=>h.imp Ada Ada,fun h=>h.imp (fun e=>by rw [e];rfl) (fun e=>by rw [e];rfl)⟩
structure ST (P:Program) (Z:List PanicEntry→Act→World→Prop) (ops:List Oper) (cl ms:List Nat) (row:RelX) (n:Nat) (K:Act→World→Prop) (m:Nat) (L:List Nat) (σ:List Ent) (w:World):Prop where mk ::
  h:∀ a,Kn n σ a→RT P Z ops.toArray (clOf cl) (wtOf ms) row K m L a w
section
variable {P:Program} {Z:List PanicEntry→Act→World→Prop} {ops:List Oper} {cl ms:List Nat} {row:RelX} {n:Nat} {K:Act→World→Prop} {m:Nat} {L L':List Nat} {σ:List Ent} {w:World} {d:Nat} {op:Op} {ty:TypeId} {pos:String} {after:Array Edge} {v:Value}
instance:CoeFun (ST P Z ops cl ms row n K m L σ w) fun _=>∀ a,Kn n σ a→RT P Z ops.toArray (clOf cl) (wtOf ms) row K m L a w:=⟨ST.h⟩
theorem Ql(h:∀ a,Kn n σ a→K a w):ST P Z ops cl ms row n K 0 [] σ w:=.mk fun a ha=>⟨rfl,h a ha⟩
theorem Ufa(τ:List Ent)(hs:Sub τ σ)(h:ST P Z ops cl ms row n K m L τ w):ST P Z ops cl ms row n K m L σ w:=.mk fun a ha=>h a (ha.sub hs)
theorem Jgb(r:Nat)(hr:ops.toArray[r]? = some ⟨some d,op,ty,pos,after,none⟩)(hb:(L.contains r&&availB ms L r&&Aaa (clOf cl r) 0&&Aba d n)=true)(hL:L.erase r=L')
 (hv:∀ w1,GX row w w1→Rd P n σ True w1 op ty v) (h:ST P Z ops cl ms row n K m L' ((d,True,v) :: σ) w):ST P Z ops cl ms row n K (m+1) L σ w:=.mk fun a ha=>by
 simp only [Aca] at hb;obtain ⟨⟨⟨h1,h2⟩,h3⟩,h4⟩:=hb;refine .inl ⟨r,by simpa using h1,(Qta ms L r).1 h2,.inl (Ada h3),_,hr,v,fun _ w1 hg=>?_,(fun hn=>by cases hn),hL▸h _ (ha.put h4 (fun _=>J) (fun hn=>absurd trivial hn))⟩;rcases hg with hg|hg;rw [Ada h3] at hg;cases hg;exact hv w1 hg _ _ _ _ a ha trivial w1 (G.refl _)
theorem Uxa(r:Nat)(hr:ops.toArray[r]? = some ⟨some d,op,ty,pos,after,none⟩)(hb:(L.contains r&&availB ms L r&&Aaa (clOf cl r) 3&&Aba d n)=true)(hL:L.erase r=L')
 (hv:∀ wb,Rd P n σ True wb op ty v) (h:ST P Z ops cl ms row n K m L' ((d,True,v) :: σ) w):ST P Z ops cl ms row n K (m+1) L σ w:=.mk fun a ha=>by
 simp only [Aca] at hb;obtain ⟨⟨⟨h1,h2⟩,h3⟩,h4⟩:=hb;exact .inl ⟨r,by simpa using h1,(Qta ms L r).1 h2,.inr (Ada h3),_,hr,v,fun _ w1 hg=>hv w1 _ _ _ _ a ha trivial w1 (G.refl _),(fun hn=>by cases hn),hL▸h _ (ha.put h4 (fun _=>rfl) (fun hn=>absurd trivial hn))⟩
open Classical in
theorem Uga{g t:Nat}{want b:Bool}{c0:Prop}(r:Nat)(hr:ops.toArray[r]? = some ⟨some d,op,ty,pos,after,some (g,want)⟩)(hb:(L.contains r&&availB ms L r&&Aaa (clOf cl r) 0&&Aba d n)=true)(hL:L.erase r=L')
 (hgd:((ops.toArray[g]?).bind (·.dst))=some t) (hlk:look σ t=some (c0,.bool b))
 (hv:∀ w1,GX row w w1→Rd P n σ (c0∧b=want) w1 op ty v) (h:ST P Z ops cl ms row n K m L' ((d,c0∧b=want,v) :: σ) w):ST P Z ops cl ms row n K (m+1) L σ w:=.mk fun a ha=>by
 simp only [Aca] at hb;obtain ⟨⟨⟨h1,h2⟩,h3⟩,h4⟩:=hb;have hw:=Vkb (op:=op) (ty:=ty) (pos:=pos) (after:=after) (want:=want) (d:=some d) hgd hlk ha;refine .inl ⟨r,by simpa using h1,(Qta ms L r).1 h2,.inl (Ada h3),_,hr,if c0∧b=want then v else undef,fun hwt w1 hg=>?_,fun hn=>?_,hL▸h _ (ha.put h4 (fun hh=>if_pos hh) (fun hh=>if_neg hh))⟩;rcases hg with hg|hg;rw [Ada h3] at hg;cases hg;rw [if_pos (hw.1 hwt)];exact hv w1 hg _ _ _ _ a ha (hw.1 hwt) w1 (G.refl _);rw [if_neg (fun hh=>by rw [hw.2 hh] at hn;cases hn)]
open Classical in
theorem Xma{g t:Nat}{want b:Bool}{c0:Prop}(r:Nat)(hr:ops.toArray[r]? = some ⟨some d,op,ty,pos,after,some (g,want)⟩)(hb:(L.contains r&&availB ms L r&&Aaa (clOf cl r) 3&&Aba d n)=true)(hL:L.erase r=L')
 (hgd:((ops.toArray[g]?).bind (·.dst))=some t) (hlk:look σ t=some (c0,.bool b))
 (hv:∀ wb,Rd P n σ (c0∧b=want) wb op ty v) (h:ST P Z ops cl ms row n K m L' ((d,c0∧b=want,v) :: σ) w):ST P Z ops cl ms row n K (m+1) L σ w:=.mk fun a ha=>by
 simp only [Aca] at hb;obtain ⟨⟨⟨h1,h2⟩,h3⟩,h4⟩:=hb;have hw:=Vkb (op:=op) (ty:=ty) (pos:=pos) (after:=after) (want:=want) (d:=some d) hgd hlk ha;refine .inl ⟨r,by simpa using h1,(Qta ms L r).1 h2,.inr (Ada h3),_,hr,if c0∧b=want then v else undef,fun hwt w1 hg=>?_,fun hn=>?_,hL▸h _ (ha.put h4 (fun hh=>if_pos hh) (fun hh=>if_neg hh))⟩;rw [if_pos (hw.1 hwt)];exact hv w1 _ _ _ _ a ha (hw.1 hwt) w1 (G.refl _);rw [if_neg (fun hh=>by rw [hw.2 hh] at hn;cases hn)]
def STE(P:Program)(Z:List PanicEntry→Act→World→Prop)(ops:List Oper)(cl ms:List Nat)(row:RelX)(n:Nat)(K:Act→World→Prop)(m:Nat)(L:List Nat)(σ:List Ent)(w:World)(j:Nat):Prop :=
 ∀ a,Kn n σ a→∃ o,ops.toArray[j]? = some o∧if Region.wanted o (yielded ops.toArray a.tmps)=true then EffQ P Z row (clOf cl j == 1) o a w (fun a' w'=>RT P Z ops.toArray (clOf cl) (wtOf ms) row K m (L.erase j) a' w')
  else RT P Z ops.toArray (clOf cl) (wtOf ms) row K m (L.erase j) (a.put o.dst undef) w
theorem Uzd(cs:List Nat)(hb:L.all (fun r=>!(availB ms L r&&isRdB cl r))=true)(hc:candB cl ms L=cs)(h:∀ j∈cs,STE P Z ops cl ms row n K m L σ w j):ST P Z ops cl ms row n K (m+1) L σ w:=.mk fun a ha=>by
 refine .inr ⟨fun r hr hav hrd=>?_,fun j hj hav=>?_⟩;have:=Aia.1 hb r hr;rw [(Qta ms L r).2 hav,(Wde cl r).2 hrd] at this;cases this;exact h j (by rw [← hc];exact List.mem_filter.2 ⟨hj,(Qta ms L j).2 hav⟩) a ha
theorem Zk(j:Nat)(hb:L.all (fun r=>!(availB ms L r&&isRdB cl r))=true)(hc:candB cl ms L=[j])(h:STE P Z ops cl ms row n K m L σ w j):ST P Z ops cl ms row n K (m+1) L σ w :=
 Uzd [j] hb hc fun i hi=>by rw [Asa.1 hi];exact h
theorem Voa(j k:Nat)(hb:L.all (fun r=>!(availB ms L r&&isRdB cl r))=true)(hc:candB cl ms L=[j,k])(h:STE P Z ops cl ms row n K m L σ w j)(h':STE P Z ops cl ms row n K m L σ w k):ST P Z ops cl ms row n K (m+1) L σ w :=
 Uzd [j,k] hb hc fun i hi=>by
 rcases Aoa.1 hi with rfl|hi;exact h;rw [Asa.1 hi];exact h'
theorem Vef(j k l:Nat)(hb:L.all (fun r=>!(availB ms L r&&isRdB cl r))=true)(hc:candB cl ms L=[j,k,l])(h:STE P Z ops cl ms row n K m L σ w j)(h':STE P Z ops cl ms row n K m L σ w k)(h'':STE P Z ops cl ms row n K m L σ w l):ST P Z ops cl ms row n K (m+1) L σ w :=
 Uzd [j,k,l] hb hc fun i hi=>by
 rcases Aoa.1 hi with rfl|hi;exact h;rcases Aoa.1 hi with rfl|hi;exact h';rw [Asa.1 hi];exact h''
theorem Zh{j:Nat}{o:Oper}(cl2:List Nat)(ho:ops.toArray[j]? = some o)(hL:L.erase j=L')(hc:(Aaa (clOf cl2 j) 0 || Aaa (clOf cl2 j) 3)=false)
 (h:SR P Z ops cl2 [] w n (fun a' w'=>GX row w w'∧RT P Z ops.toArray (clOf cl) (wtOf ms) row K m L' a' w') j [o] σ w):STE P Z ops cl ms row n K m L σ w j:=fun a ha=>by
 subst hL
 have h1:=h (fun i o' h=>by cases i with
  | zero=>injection h with h;subst h;exact ho
  | succ i=>cases h) a ha
 have hc':¬ (clOf cl2 j=0∨clOf cl2 j=3):=by
  intro e;rw [Cia] at hc;rcases e with e|e <;> rw [e] at hc <;> simp at hc
 obtain ⟨o',ho',h2⟩:=h1;obtain rfl:o'=o:=Option.some.inj (ho'.symm.trans ho);rw [if_neg hc'] at h2;refine ⟨o',ho,?_⟩;by_cases hw:Region.wanted o' (yielded ops.toArray a.tmps)=true;rw [if_pos hw] at h2 ⊢;rcases h2 with ⟨v,w',hr,_,hn⟩|⟨w',hr,_,hn⟩|⟨f,args,hr,hcl⟩|⟨l,f,tmps,asg,body,hr,hcl⟩;exact .inl ⟨v,w',hr,fun _=>hn.1,hn.2⟩;exact .inr (.inl ⟨w',hr,fun _=>hn.1,hn.2⟩);refine .inr (.inr (.inl ⟨f,args,hr,Calls.mono hcl fun e w' h=>?_⟩));rcases h with ⟨v,he,_,hn⟩|h;exact .inl ⟨v,he,fun _=>hn.1,hn.2⟩;exact .inr h;exact .inr (.inr (.inr ⟨l,f,tmps,asg,body,hr,RoundIn.mono hcl fun e w' ⟨v,he,_,hn⟩=>⟨v,he,fun _=>hn.1,hn.2⟩⟩));rw [if_neg hw] at h2 ⊢;exact h2.2
theorem Ya{j:Nat}{o:Oper}(cl2:List Nat)(ho:ops.toArray[j]? = some o)(hL:L.erase j=L')(hc:(Aaa (clOf cl2 j) 0 || Aaa (clOf cl2 j) 3)=false)(h1c:Aaa (clOf cl j) 1=false)
 (h:SR P Z ops cl2 [] w n (fun a' w'=>RT P Z ops.toArray (clOf cl) (wtOf ms) row K m L' a' w') j [o] σ w):STE P Z ops cl ms row n K m L σ w j:=fun a ha=>by
 subst hL
 have h1:=h (fun i o' h=>by cases i with
  | zero=>injection h with h;subst h;exact ho
  | succ i=>cases h) a ha
 have hc':¬ (clOf cl2 j=0∨clOf cl2 j=3):=by
  intro e;rw [Cia] at hc;rcases e with e|e <;> rw [e] at hc <;> simp at hc
 have h1c':(clOf cl j == 1)=false:=by
  cases h:(clOf cl j == 1) with
  | false=>rfl
  | true=>rw [eq_of_beq h] at h1c;cases h1c
 obtain ⟨o',ho',h2⟩:=h1;obtain rfl:o'=o:=Option.some.inj (ho'.symm.trans ho);rw [if_neg hc'] at h2;refine ⟨o',ho,?_⟩;rw [h1c'];by_cases hw:Region.wanted o' (yielded ops.toArray a.tmps)=true;rw [if_pos hw] at h2 ⊢;rcases h2 with ⟨v,w',hr,_,hn⟩|⟨w',hr,_,hn⟩|⟨f,args,hr,hcl⟩|⟨l,f,tmps,asg,body,hr,hcl⟩;exact .inl ⟨v,w',hr,(fun h=>by cases h),hn⟩;exact .inr (.inl ⟨w',hr,(fun h=>by cases h),hn⟩);refine .inr (.inr (.inl ⟨f,args,hr,Calls.mono hcl fun e w' h=>?_⟩));rcases h with ⟨v,he,_,hn⟩|h;exact .inl ⟨v,he,(fun h=>by cases h),hn⟩;exact .inr h;exact .inr (.inr (.inr ⟨l,f,tmps,asg,body,hr,RoundIn.mono hcl fun e w' ⟨v,he,_,hn⟩=>⟨v,he,(fun h=>by cases h),hn⟩⟩));rw [if_neg hw] at h2 ⊢;exact h2
theorem Yk{cl2:List Nat}{W0:World}{k:Nat}(h:ST P Z ops cl ms row n K m L σ w):SR P Z ops cl2 [] W0 n (fun a' w'=>RT P Z ops.toArray (clOf cl) (wtOf ms) row K m L a' w') k [] σ w:=Ze h
theorem Zq{cl2:List Nat}{W0 w0:World}{k:Nat}(hg:GX row w0 w)(h:ST P Z ops cl ms row n K m L σ w):SR P Z ops cl2 [] W0 n (fun a' w'=>GX row w0 w'∧RT P Z ops.toArray (clOf cl) (wtOf ms) row K m L a' w') k [] σ w:=Ze fun a ha=>⟨hg,h a ha⟩
end
section
variable {P:Program} {B:List PanicEntry→World→Prop} {n:Nat} {N T:Act→World→Prop} {X:List (Nat×(Act→World→Prop))} {σ:List Ent} {w:World}
theorem Yq{id:Nat}{l:List Oper}(row:RelX)(cl:List Nat)(ms:List Nat)(hm:P.follows .mixedOrders=true)(hok:okT l cl ms=true)(L:List Nat)(hL:Aea l.length=L)
 (h:ST P (ZA B) l cl ms row n N l.length L σ w.drew):SZ P B n (.region id l.toArray true) N X T σ w:=.mk fun a ha=>by
 have h1:=h a ha;subst hL;have h2:RT P (ZA B) l.toArray (clOf cl) (wtOf ms) row (fun a w=>(Qof N X T B) .normal a w) l.toArray.size (Aea l.toArray.size) a w.drew:=by simpa [Qof] using h1
 exact wpIn_wide.1 (Qgb (ρ:=none) (fun _ a d v _ _ h=>⟨by cases d <;> exact h.1,h.2⟩) (Vac hok) (fun _ _ _ h=>h) hm h2)
end
section
variable {P:Program} {n:Nat} {σ:List Ent} {c:Prop} {wb:World} {ty:TypeId} {v:Value}
end
section
variable {P:Program} {Z:List PanicEntry→Act→World→Prop} {ops:List Oper} {cl:List Nat} {lv:List Bool} {W0:World} {n:Nat} {K:Act→World→Prop} {k:Nat} {rest:List Oper} {σ:List Ent} {w:World} {d:Nat} {ty:TypeId} {pos:String} {after:Array Edge}
end
def opv(σ:List Ent):Operand→Option (Prop×Value)
 | .tmp t=>look σ t
 | .const v=>some (True,v)
 | .global g=>some (True,.pointer (some ⟨g,0,none⟩))
 | .func f=>some (True,.func (.func f) #[] #[])
section
variable {n:Nat} {σ:List Ent} {c:Prop} {v:Value}
theorem Yda{x:Operand}(h:opv σ x=some (True,v)):Ev n σ c x v:=by
 cases x with
 | tmp t=>exact Zc h
 | const u=>injection h with h;injection h with _ h;subst h;exact Xm
 | global g=>injection h with h;injection h with _ h;subst h;exact Zfb
 | func f=>injection h with h;injection h with _ h;subst h;exact Vt
theorem aq0:Vba n σ c [] []:=Xr
theorem aqc{x:Operand}{u:Value}{xs:List Operand}{vs:List Value}(h:opv σ x=some (True,u))(k:Vba n σ c xs vs):Vba n σ c (x::xs) (u::vs):=Yn (Yda h) k
theorem pq0:Vma n σ c #[] []:=Vn
theorem pqc{i:Nat}{x:Operand}{u:Value}{ps:List (Nat×Operand)}{vs:List (Nat×Value)}(h:opv σ x=some (True,u))(k:Vma n σ c ps.toArray vs):Vma n σ c ((i,x)::ps).toArray ((i,u)::vs):=Wa (Yda h) k
end
section
variable {P:Program} {Z:List PanicEntry→Act→World→Prop} {ops:List Oper} {cl:List Nat} {lv:List Bool} {W0:World} {n:Nat} {K:Act→World→Prop} {k:Nat} {rest:List Oper} {σ:List Ent} {w:World} {d:Nat} {op:Op} {ty:TypeId} {pos:String} {after:Array Edge} {v:Value} {x y:Operand}
section
theorem Zx(hx:opv σ x=some (True,v))(h:SR P Z ops cl lv W0 n K (k+1) rest ((d,True,v) :: σ) w)(hb:(Aaa (clOf cl k) 3&&Aba d n)=true:=by exact rfl):SR P Z ops cl lv W0 n K k (⟨some d,.move x,ty,pos,after,none⟩::rest) σ w:=Zr hb (fun _=>Zl (Yda hx)) h
theorem Xb(hx:opv σ x=some (True,v))(h:SR P Z ops cl lv W0 n K (k+1) rest ((d,True,v) :: σ) w)(hb:(Aaa (clOf cl k) 3&&Aba d n)=true:=by exact rfl):SR P Z ops cl lv W0 n K k (⟨some d,.assign x,ty,pos,after,none⟩::rest) σ w:=Zr hb (fun _=>Wg (Yda hx)) h
theorem Uo{a:Addr}(hx:opv σ x=some (True,.pointer (some a)))(h:SR P Z ops cl lv W0 n K (k+1) rest ((d,True,.pointer (some a)) :: σ) w)(hb:(Aaa (clOf cl k) 3&&Aba d n)=true:=by exact rfl):SR P Z ops cl lv W0 n K k (⟨some d,.nilCheck x,ty,pos,after,none⟩::rest) σ w:=Zr hb (fun _=>Xka (Yda hx)) h
theorem Xg{s j off b o:Nat}(hf:Yu P s j=some off)(hx:opv σ x=some (True,.pointer (some ⟨b,o,none⟩)))(h:SR P Z ops cl lv W0 n K (k+1) rest ((d,True,.pointer (some ⟨b,o+off,none⟩)) :: σ) w)(hb:(Aaa (clOf cl k) 3&&Aba d n)=true:=by exact rfl):SR P Z ops cl lv W0 n K k (⟨some d,.fieldAddr s x j,ty,pos,after,none⟩::rest) σ w:=Zr hb (fun _=>Zj hf (Yda hx)) h
theorem q_no{t:TypeId}{i:Bool}(hx:opv σ x=some (True,.bool i))(h:SR P Z ops cl lv W0 n K (k+1) rest ((d,True,.bool (!i)) :: σ) w)(hb:(Aaa (clOf cl k) 3&&Aba d n)=true:=by exact rfl):SR P Z ops cl lv W0 n K k (⟨some d,.unOp .not t x,ty,pos,after,none⟩::rest) σ w:=Zr hb (fun _=>Wpc (Yda hx)) h
theorem Jsa{t u:TypeId}{q:IntKind}{i j:Int}(hx:opv σ x=some (True,.int q i))(hy:opv σ y=some (True,.int q j))(h:SR P Z ops cl lv W0 n K (k+1) rest ((d,True,.bool (decide (i=j))) :: σ) w)(hb:(Aaa (clOf cl k) 3&&Aba d n)=true:=by exact rfl):SR P Z ops cl lv W0 n K k (⟨some d,.binOp .eql t x y u,ty,pos,after,none⟩::rest) σ w:=Zr hb (fun _=>Jva (Yda hx) (Yda hy)) h
theorem Vff{t u:TypeId}{q:IntKind}{i j:Int}(hx:opv σ x=some (True,.int q i))(hy:opv σ y=some (True,.int q j))(h:SR P Z ops cl lv W0 n K (k+1) rest ((d,True,.bool (!decide (i=j))) :: σ) w)(hb:(Aaa (clOf cl k) 3&&Aba d n)=true:=by exact rfl):SR P Z ops cl lv W0 n K k (⟨some d,.binOp .neq t x y u,ty,pos,after,none⟩::rest) σ w:=Zr hb (fun _=>Vta (Yda hx) (Yda hy)) h
theorem Znb{t u:TypeId}{q:IntKind}{i j:Int}(hx:opv σ x=some (True,.int q i))(hy:opv σ y=some (True,.int q j))(h:SR P Z ops cl lv W0 n K (k+1) rest ((d,True,.bool (decide (i<j))) :: σ) w)(hb:(Aaa (clOf cl k) 3&&Aba d n)=true:=by exact rfl):SR P Z ops cl lv W0 n K k (⟨some d,.binOp .lss t x y u,ty,pos,after,none⟩::rest) σ w:=Zr hb (fun _=>Unb (Yda hx) (Yda hy)) h
theorem Uye{t u:TypeId}{q:IntKind}{i j:Int}(hx:opv σ x=some (True,.int q i))(hy:opv σ y=some (True,.int q j))(h:SR P Z ops cl lv W0 n K (k+1) rest ((d,True,.bool (decide (j<i))) :: σ) w)(hb:(Aaa (clOf cl k) 3&&Aba d n)=true:=by exact rfl):SR P Z ops cl lv W0 n K k (⟨some d,.binOp .gtr t x y u,ty,pos,after,none⟩::rest) σ w:=Zr hb (fun _=>Woc (Yda hx) (Yda hy)) h
theorem Yng{t u:TypeId}{q:IntKind}{i j:Int}(hx:opv σ x=some (True,.int q i))(hy:opv σ y=some (True,.int q j))(h:SR P Z ops cl lv W0 n K (k+1) rest ((d,True,.bool (decide (j≤i))) :: σ) w)(hb:(Aaa (clOf cl k) 3&&Aba d n)=true:=by exact rfl):SR P Z ops cl lv W0 n K k (⟨some d,.binOp .geq t x y u,ty,pos,after,none⟩::rest) σ w:=Zr hb (fun _=>Zpg (Yda hx) (Yda hy)) h
theorem Uze{t u:TypeId}{i j:List UInt8}(hx:opv σ x=some (True,Str i))(hy:opv σ y=some (True,Str j))(h:SR P Z ops cl lv W0 n K (k+1) rest ((d,True,.bool (decide (i=j))) :: σ) w)(hb:(Aaa (clOf cl k) 3&&Aba d n)=true:=by exact rfl):SR P Z ops cl lv W0 n K k (⟨some d,.binOp .eql t x y u,ty,pos,after,none⟩::rest) σ w:=Zr hb (fun _=>Wqc (Yda hx) (Yda hy)) h
theorem Wga{i:Nat}{vs:Array Value}(hx:opv σ x=some (True,.tuple vs))(hv:vs[i]? = some v)(h:SR P Z ops cl lv W0 n K (k+1) rest ((d,True,v) :: σ) w)(hb:(Aaa (clOf cl k) 3&&Aba d n)=true:=by exact rfl):SR P Z ops cl lv W0 n K k (⟨some d,.extract x i,ty,pos,after,none⟩::rest) σ w:=Zr hb (fun _=>Wza (Yda hx) hv) h
end
theorem Xp{t b o:Nat}(ht:Up P t=true)(hx:opv σ x=some (True,.pointer (some ⟨b,o,none⟩)))(hc:w.cell? ⟨b,o,none⟩=some v)(h:SR P Z ops cl lv W0 n K (k+1) rest ((d,True,v) :: σ) w)(hb:(Aaa (clOf cl k) 0&&lvOf lv k&&Aba d n)=true:=by exact rfl):SR P Z ops cl lv W0 n K k (⟨some d,.load t x,ty,pos,after,none⟩::rest) σ w:=Ut hb (Zw ht (Yda hx) (fun _=>hc)) h
theorem Vw{t b o z:Nat}{l:List Value}(ht:Xqa P t=some z)(hx:opv σ x=some (True,.pointer (some ⟨b,o,none⟩)))(hl:l.length=z)(hc:RowAt w b o l)(h:SR P Z ops cl lv W0 n K (k+1) rest ((d,True,.agg l.toArray) :: σ) w)(hb:(Aaa (clOf cl k) 0&&lvOf lv k&&Aba d n)=true:=by exact rfl):SR P Z ops cl lv W0 n K k (⟨some d,.load t x,ty,pos,after,none⟩::rest) σ w:=Ut hb (Zt ht (Yda hx) hl (fun _=>hc)) h
end
section
variable {P:Program} {B:List PanicEntry→World→Prop} {n:Nat} {N T:Act→World→Prop} {X:List (Nat×(Act→World→Prop))} {σ:List Ent} {w:World}
theorem Qn{x:Operand}{b:Bool}{p q:Code}(hx:opv σ x=some (True,.bool b))(h1:b=true→SZ P B n p N X T σ w)(h2:b=false→SZ P B n q N X T σ w):SZ P B n (.cond x p q) N X T σ w:=Xca (Yda hx) h1 h2
end
def KQ(P:Program)(B:List PanicEntry→World→Prop)(n:Nat)(y:Code)(N:Act→World→Prop)(X:List (Nat×(Act→World→Prop)))(T:Act→World→Prop)(a:Act)(u:World):Prop:=∃ τ,Kn n τ a∧SZ P B n y N X T τ u
section
variable {P:Program} {B:List PanicEntry→World→Prop} {n:Nat} {N T:Act→World→Prop} {X:List (Nat×(Act→World→Prop))} {σ:List Ent} {w:World}
theorem kq{y:Code}(h:SZ P B n y N X T σ w):∀ a,Kn n σ a→KQ P B n y N X T a w:=fun a ha=>⟨σ,ha,h⟩
theorem Zm{x y:Code}(h:SZ P B n x (KQ P B n y N X T) X T σ w):SZ P B n (.seq x y) N X T σ w:=.mk fun a ha=>by
 refine wp_seq (Code.wp_mono (fun e a w q=>?_) (h a ha))
 cases e with
 | normal=>obtain ⟨τ,hk,hs⟩:=q;exact hs a hk
 | _=>exact q
end
theorem Yo{a w w':World}{j:Nat}(h:G a w)(hg:w.grownBy w' (some j))(hj:a.heap.size≤j):G a w':=Wuc h hg fun k hk=>by injection hk with hk;omega
theorem nw1{p:Prop}(h:(2:Nat)=1):p:=absurd h Od
def clD(o:Oper):Nat:=match o.op with
 | .load ..=>0
 | .move .. | .assign .. | .pick .. | .nilCheck .. | .binOp .. | .unOp .. | .makeInterface .. | .makeFunc .. | .slice .. | .fieldAddr .. | .field .. | .indexAddr .. | .index .. | .extract .. | .build ..=>3
 | .call c=>match c.callee with
  | .builtin .len=>3
  | _=>2
 | _=>2
theorem Zu{P:Program}{B:List PanicEntry→World→Prop}{n:Nat}{N T:Act→World→Prop}{X:List (Nat×(Act→World→Prop))}{σ:List Ent}{w:World}{id:Nat}{l:List Oper}(h:SR P (ZA B) l (l.map clD) [] w n N 0 l σ w):SZ P B n (.region id l.toArray false) N X T σ w:=Wp _ h
section
variable {P:Program} {Z:List PanicEntry→Act→World→Prop} {ops:List Oper} {cl ms:List Nat} {row:RelX} {n:Nat} {K:Act→World→Prop} {m:Nat} {L:List Nat} {σ:List Ent} {w:World} {d:Nat} {op:Op} {ty:TypeId} {pos:String} {after:Array Edge} {v:Value}
theorem Yg(r:Nat)(hr:ops.toArray[r]? = some ⟨some d,op,ty,pos,after,none⟩)(hb:(L.contains r&&availB ms L r&&Aaa (clOf cl r) 0&&Aba d n)=true)
  (hv:∀ w1,GX row w w1→Rd P n σ True w1 op ty v) (h:ST P Z ops cl ms row n K m (L.erase r) ((d,True,v) :: σ) w):ST P Z ops cl ms row n K (m+1) L σ w:=Jgb r hr hb rfl hv h
theorem Zs(r:Nat)(hr:ops.toArray[r]? = some ⟨some d,op,ty,pos,after,none⟩)(hb:(L.contains r&&availB ms L r&&Aaa (clOf cl r) 3&&Aba d n)=true)
  (hv:∀ wb,Rd P n σ True wb op ty v) (h:ST P Z ops cl ms row n K m (L.erase r) ((d,True,v) :: σ) w):ST P Z ops cl ms row n K (m+1) L σ w:=Uxa r hr hb rfl hv h
end
theorem gdr{a w:World}(g:G a w):G a w.drew:=g.trans (G.drew _)
theorem knr{n:Nat}{σ:List Ent}{w:World}:∀ a,Kn n σ a→Kn n σ a∧w=w:=fun _ h=>⟨h,rfl⟩
section
variable {P:Program} {Z:List PanicEntry→Act→World→Prop} {ops:List Oper} {cl:List Nat} {lv:List Bool} {W0:World} {n:Nat} {K:Act→World→Prop} {k:Nat} {rest:List Oper} {σ:List Ent} {w:World} {d:Nat} {ty:TypeId} {pos:String} {after:Array Edge} {t:TypeId} {x y:Operand} {b o z:Nat} {e:TypeId} {u v:Value} {l vs:List Value}
theorem Xxb(hs:tySize P t=some 1)(hx:opv σ x=some (True,.pointer (some ⟨b,o,none⟩)))(hy:opv σ y=some (True,u))(hu:u.cells = #[v])(hB:Blk w b e l)
  (h:∀ w1,w.grownBy w1 (some b)→w1.heap.size=w.heap.size→Blk w1 b e (l.set o v)→SR P Z ops cl lv W0 n K (k+1) rest σ w1) (hb:Aaa (clOf cl k) 2=true:=by exact rfl) (hfit:Aba o l.length=true:=by exact rfl) (h1:v.oneCell'=true:=by exact rfl) :
  SR P Z ops cl lv W0 n K k (⟨none,.store t x y,ty,pos,after,none⟩::rest) σ w:=Yb hb hs (Yda hx) (Yda hy) hu hB hfit h1 h
theorem Yra(hs:tySize P t=some z)(hx:opv σ x=some (True,.pointer (some ⟨b,0,none⟩)))(hy:opv σ y=some (True,u))(hu:u.cells=vs.toArray)(hB:Blk w b e l)
  (h:∀ w1,w.grownBy w1 (some b)→w1.heap.size=w.heap.size→Blk w1 b e vs→SR P Z ops cl lv W0 n K (k+1) rest σ w1) (hb:Aaa (clOf cl k) 2=true:=by exact rfl) (hz:vs.length=z:=by exact rfl) (hfit:Aaa vs.length l.length=true:=by exact rfl) (h1:onesB vs=true:=by exact rfl) :
  SR P Z ops cl lv W0 n K k (⟨none,.store t x y,ty,pos,after,none⟩::rest) σ w:=Xk hb hs (Yda hx) (Yda hy) hu hz hB hfit h1 h
theorem Zva{ps:Array (Nat×Operand)}{vs:List (Nat×Value)}{pl:List (Nat×Nat)}{z:Value}{zl l:List Value}(hz:zeroOf P t=some z)(hp:Wy P t=some pl)(hx:Vma n σ True ps vs)(hzl:z.cells=zl.toArray)
  (hl:Xkc (fun i=>pl[i]?) zl vs=some l) (h:SR P Z ops cl lv W0 n K (k+1) rest ((d,True,.agg l.toArray) :: σ) w) (hb:(Aaa (clOf cl k) 3&&Aba d n)=true:=by exact rfl) :
  SR P Z ops cl lv W0 n K k (⟨some d,.build t ps,ty,pos,after,none⟩::rest) σ w:=Zr hb (fun _=>Ux l hz hzl hp hx hl) h
theorem Wha{t e z by_:Nat}{x:Operand}{b:Option Addr}{m q:Nat}(ht:tyElem P t=some (e,z,by_))(hx:opv σ x=some (True,.slice b m q))(h:SR P Z ops cl lv W0 n K (k+1) rest ((d,True,.int .i64 m) :: σ) w)(hb:(Aaa (clOf cl k) 3&&Aba d n)=true:=by exact rfl) :
  SR P Z ops cl lv W0 n K k (⟨some d,.call { callee:=.builtin .len,args:=#[x],argTypes:=#[t] },ty,pos,after,none⟩::rest) σ w:=Zr hb (fun _=>Qdb ht (Yda hx)) h
theorem Qhb{t e z by_:Nat}{b o m q:Nat}{g:IntKind}{i:Int}(ht:tyElem P t=some (e,z,by_))(hx:opv σ x=some (True,.slice (some ⟨b,o,none⟩) m q))(hy:opv σ y=some (True,.int g i))(hi:0≤i∧i<m)
  (h:SR P Z ops cl lv W0 n K (k+1) rest ((d,True,.pointer (some ⟨b,o+i.toNat*z,none⟩)) :: σ) w) (hb:(Aaa (clOf cl k) 3&&Aba d n)=true:=by exact rfl):SR P Z ops cl lv W0 n K k (⟨some d,.indexAddr t x y,ty,pos,after,none⟩::rest) σ w:=Zr hb (fun _=>Vaa ht (Yda hx) (Yda hy) fun _=>hi) h
theorem Vua{t u:TypeId}{i j:Int}(hx:opv σ x=some (True,.int .i64 i))(hy:opv σ y=some (True,.int .i64 j))(hr : -9223372036854775808≤i+j∧i+j≤9223372036854775807)
  (h:SR P Z ops cl lv W0 n K (k+1) rest ((d,True,.int .i64 (i+j)) :: σ) w) (hb:(Aaa (clOf cl k) 3&&Aba d n)=true:=by exact rfl):SR P Z ops cl lv W0 n K k (⟨some d,.binOp .add t x y u,ty,pos,after,none⟩::rest) σ w:=Zr hb (fun _=>Qza (Yda hx) (Yda hy) fun _=>hr) h
end
theorem Wo{a w w1:World}{b:Nat}{e:TypeId}{l:List Value}(h:New w w1 b e l)(g:a.heap.size≤w.heap.size):a.heap.size≤b:=by have:=h.at_;omega
/-! own blocks -/
def AllOb(w:World):List (Nat×TypeId×List Value)→Prop
 | []=>True
 | (b,e,l)::L=>Blk w b e l∧AllOb w L
def Obk(w:World)(L:List (Nat×TypeId×List Value)):Prop:=(L.map Prod.fst).Nodup∧AllOb w L
section
variable {w w':World} {L:List (Nat×TypeId×List Value)} {b:Nat} {e:TypeId} {l l':List Value} {x0 x1 x2 x3 x4 x5 x6 x7 x8 x9 x10 x11:Nat×TypeId×List Value}
theorem Zna(w:World):Obk w []:=⟨List.nodup_nil,trivial⟩
theorem Quc:∀ {L:List (Nat×TypeId×List Value)} {i:Nat},AllOb w L→L[i]? = some (b,e,l)→Blk w b e l
 | [],i,_,h=>by simp at h
 | (b',e',l')::L,0,hA,h=>by injection h with h;injection h with h1 h2;injection h2 with h2 h3;subst h1 h2 h3;exact hA.1
 | (b',e',l')::L,i+1,hA,h=>Quc (L:=L) (i:=i) hA.2 h
theorem Obk.g(E:Obk w L)(i:Nat)(h:L[i]? = some (b,e,l)):Blk w b e l:=Quc E.2 h
theorem Wca{w w':World}:∀ {L:List (Nat×TypeId×List Value)},AllOb w L→(∀ b e l,(b,e,l)∈L→Blk w b e l→Blk w' b e l)→AllOb w' L
 | [],_,_=>trivial
 | (b,e,l)::L,h,f=>⟨f b e l Aga h.1,Wca h.2 fun b e l hm hB=>f b e l (Ama _ hm) hB⟩
theorem Obk.grow(E:Obk w L)(g:G w w'):Obk w' L:=⟨E.1,Wca E.2 fun _ _ _ _ h=>h.grow g⟩
theorem Obk.dr(E:Obk w L):Obk w.drew L:=E.grow (G.drew _)
theorem Vbc{w:World}:∀ {L:List (Nat×TypeId×List Value)},AllOb w L→∀ b∈L.map Prod.fst,b<w.heap.size
 | [],_,b,hm=>by cases hm
 | (b',e,l)::L,h,b,hm=>by
  rcases Aoa.1 hm with q|q;subst q;exact h.1.lt;exact Vbc h.2 b q
theorem Obk.ltm(E:Obk w L){X:List Nat}(h:∀ j∈X,j∈L.map Prod.fst):∀ j∈X,j<w.heap.size:=fun j hj=>Vbc E.2 j (h j hj)
theorem Obk.new(E:Obk w L)(N:New w w' b e l):Obk w' ((b,e,l)::L):=by
 refine ⟨Bya.2 ⟨fun hm=>?_,E.1⟩,N.blk,(E.grow N.g).2⟩;have:=Vbc E.2 b hm;have:=N.at_;omega
theorem Obk.keep(E:Obk w L){row:Option Nat}(hg:w.grownBy w' row)(h:∀ b∈L.map Prod.fst,some b≠row):Obk w' L :=
 ⟨E.1,Wca E.2 fun b e l hm hB=>hB.keep hg (h b (List.mem_map_of_mem (f:=Prod.fst) hm))⟩
theorem Obk.keepX(E:Obk w L){row:Option Nat}{X:List Nat}(hg:w.grownBy w' row)(hn:∀ {b},b∈X→some b≠row)(h:∀ j∈L.map Prod.fst,j∈X):Obk w' L:=E.keep hg fun b hb=>hn (h b hb)
theorem Yma{w:World}{b b':Nat}{e e':TypeId}{l l':List Value}(h:Blk w b e l)(h':Blk w b' e' l')(he:Aaa e e'=false):b≠b':=fun q=>by
 subst q;unfold Blk at h h';rw [h] at h';injection h' with h';injection h' with _ h';subst h';simp at he
theorem Obk.keepT(E:Obk w L){j:Nat}{e':TypeId}{xs:List Value}(hg:w.grownBy w' (some j))(hB:Blk w j e' xs)(ht:(L.all fun x=>!Aaa x.2.1 e')=true):Obk w' L :=
 ⟨E.1,Wca E.2 fun b e l hm h=>h.keep hg fun q=>by
 injection q with q;have:=Aia.1 ht _ hm;exact Yma h hB (by simpa using this) q⟩
theorem Obk.keepN(E:Obk w L){base z m:Nat}{e':TypeId}{v:Value}{xs:List Value}(hO:w.ownsRow base e' z v m xs)(hg:w.grownBy w' v.ownBlock)(ht:(L.all fun x=>!Aaa e' x.2.1)=true):Obk w' L :=
 ⟨E.1,Wca E.2 fun b e l hm h=>h.keep hg fun q=>by
 have hne:=Aia.1 ht _ hm;rcases hO.2 with ⟨h1,_⟩|⟨g,cap,cur,h1,h2,h3,_⟩;rw [h1] at q;cases q;rw [h1] at q;have:b=g:=by injection q
 subst this;unfold Blk at h;rw [h] at h3;injection h3 with h3;injection h3 with _ h3;subst h3;simp at hne⟩
theorem Qvc{w w':World}{j:Nat}(hg:w.grownBy w' (some j)):∀ {L:List (Nat×TypeId×List Value)},j∉L.map Prod.fst→AllOb w L→AllOb w' L
 | [],_,_=>trivial
 | (b,e,l)::L,hn,h=>⟨h.1.keep hg fun q=>by injection q with q;subst q;exact hn Aga,Qvc hg (fun q=>hn (Ama _ q)) h.2⟩
theorem Obk.tl{x:Nat×TypeId×List Value}(E:Obk w (x::L)):Obk w L:=⟨(Bya.1 E.1).2,E.2.2⟩
theorem Obk.hd(E:Obk w ((b,e,l)::L)):b∉L.map Prod.fst:=(Bya.1 E.1).1
theorem Obk.s0(E:Obk w ((b,e,l)::L))(hg:w.grownBy w' (some b))(hB:Blk w' b e l'):Obk w' ((b,e,l')::L):=⟨E.1,hB,Qvc hg E.hd E.2.2⟩
theorem Obk.up{x:Nat×TypeId×List Value}(E:Obk w (x::L))(hg:w.grownBy w' (some b))(hm:b∈L.map Prod.fst){L':List (Nat×TypeId×List Value)}(h:Obk w' L')(hL:L'.map Prod.fst=L.map Prod.fst):Obk w' (x::L'):=by
 refine ⟨?_,?_,h.2⟩;show (x.1::L'.map Prod.fst).Nodup;rw [hL];exact E.1;obtain ⟨b',e',l''⟩:=x;exact E.2.1.keep hg fun q=>by injection q with q;subst q;exact E.hd hm
theorem Obk.s1(E:Obk w (x0::(b,e,l)::L))(hg:w.grownBy w' (some b))(hB:Blk w' b e l'):Obk w' (x0::(b,e,l')::L):=E.up hg Os (E.tl.s0 hg hB) rfl
theorem Obk.s2(E:Obk w (x0::x1::(b,e,l)::L))(hg:w.grownBy w' (some b))(hB:Blk w' b e l'):Obk w' (x0::x1::(b,e,l')::L):=E.up hg Os (E.tl.s1 hg hB) rfl
theorem Obk.s3(E:Obk w (x0::x1::x2::(b,e,l)::L))(hg:w.grownBy w' (some b))(hB:Blk w' b e l'):Obk w' (x0::x1::x2::(b,e,l')::L):=E.up hg Os (E.tl.s2 hg hB) rfl
theorem Obk.s4(E:Obk w (x0::x1::x2::x3::(b,e,l)::L))(hg:w.grownBy w' (some b))(hB:Blk w' b e l'):Obk w' (x0::x1::x2::x3::(b,e,l')::L):=E.up hg Os (E.tl.s3 hg hB) rfl
theorem Obk.s5(E:Obk w (x0::x1::x2::x3::x4::(b,e,l)::L))(hg:w.grownBy w' (some b))(hB:Blk w' b e l'):Obk w' (x0::x1::x2::x3::x4::(b,e,l')::L):=E.up hg Os (E.tl.s4 hg hB) rfl
theorem Obk.s6(E:Obk w (x0::x1::x2::x3::x4::x5::(b,e,l)::L))(hg:w.grownBy w' (some b))(hB:Blk w' b e l'):Obk w' (x0::x1::x2::x3::x4::x5::(b,e,l')::L):=E.up hg Os (E.tl.s5 hg hB) rfl
theorem Obk.s7(E:Obk w (x0::x1::x2::x3::x4::x5::x6::(b,e,l)::L))(hg:w.grownBy w' (some b))(hB:Blk w' b e l'):Obk w' (x0::x1::x2::x3::x4::x5::x6::(b,e,l')::L):=E.up hg Os (E.tl.s6 hg hB) rfl
theorem Obk.s8(E:Obk w (x0::x1::x2::x3::x4::x5::x6::x7::(b,e,l)::L))(hg:w.grownBy w' (some b))(hB:Blk w' b e l'):Obk w' (x0::x1::x2::x3::x4::x5::x6::x7::(b,e,l')::L):=E.up hg Os (E.tl.s7 hg hB) rfl
theorem Obk.s9(E:Obk w (x0::x1::x2::x3::x4::x5::x6::x7::x8::(b,e,l)::L))(hg:w.grownBy w' (some b))(hB:Blk w' b e l'):Obk w' (x0::x1::x2::x3::x4::x5::x6::x7::x8::(b,e,l')::L):=E.up hg Os (E.tl.s8 hg hB) rfl
theorem Obk.s10(E:Obk w (x0::x1::x2::x3::x4::x5::x6::x7::x8::x9::(b,e,l)::L))(hg:w.grownBy w' (some b))(hB:Blk w' b e l'):Obk w' (x0::x1::x2::x3::x4::x5::x6::x7::x8::x9::(b,e,l')::L):=E.up hg Os (E.tl.s9 hg hB) rfl
theorem Obk.s11(E:Obk w (x0::x1::x2::x3::x4::x5::x6::x7::x8::x9::x10::(b,e,l)::L))(hg:w.grownBy w' (some b))(hB:Blk w' b e l'):Obk w' (x0::x1::x2::x3::x4::x5::x6::x7::x8::x9::x10::(b,e,l')::L):=E.up hg Os (E.tl.s10 hg hB) rfl
theorem Obk.s12(E:Obk w (x0::x1::x2::x3::x4::x5::x6::x7::x8::x9::x10::x11::(b,e,l)::L))(hg:w.grownBy w' (some b))(hB:Blk w' b e l'):Obk w' (x0::x1::x2::x3::x4::x5::x6::x7::x8::x9::x10::x11::(b,e,l')::L):=E.up hg Os (E.tl.s11 hg hB) rfl
theorem Obk.r0(E:Obk w ((b,e,l)::L))(hB:Blk w b e l'):Obk w ((b,e,l')::L):=⟨E.1,hB,E.2.2⟩
theorem Obk.r1(E:Obk w (x0::(b,e,l)::L))(hB:Blk w b e l'):Obk w (x0::(b,e,l')::L):=⟨E.1,E.2.1,(E.tl.r0 hB).2⟩
theorem Obk.r2(E:Obk w (x0::x1::(b,e,l)::L))(hB:Blk w b e l'):Obk w (x0::x1::(b,e,l')::L):=⟨E.1,E.2.1,(E.tl.r1 hB).2⟩
theorem Obk.r3(E:Obk w (x0::x1::x2::(b,e,l)::L))(hB:Blk w b e l'):Obk w (x0::x1::x2::(b,e,l')::L):=⟨E.1,E.2.1,(E.tl.r2 hB).2⟩
theorem Obk.r4(E:Obk w (x0::x1::x2::x3::(b,e,l)::L))(hB:Blk w b e l'):Obk w (x0::x1::x2::x3::(b,e,l')::L):=⟨E.1,E.2.1,(E.tl.r3 hB).2⟩
theorem Obk.r5(E:Obk w (x0::x1::x2::x3::x4::(b,e,l)::L))(hB:Blk w b e l'):Obk w (x0::x1::x2::x3::x4::(b,e,l')::L):=⟨E.1,E.2.1,(E.tl.r4 hB).2⟩
theorem Obk.g0(E:Obk w ((b,e,l)::L)):Blk w b e l:=E.2.1
theorem Obk.g1(E:Obk w (x0::(b,e,l)::L)):Blk w b e l:=E.tl.g0
theorem Obk.g2(E:Obk w (x0::x1::(b,e,l)::L)):Blk w b e l:=E.tl.g1
theorem Obk.g3(E:Obk w (x0::x1::x2::(b,e,l)::L)):Blk w b e l:=E.tl.g2
theorem Obk.g4(E:Obk w (x0::x1::x2::x3::(b,e,l)::L)):Blk w b e l:=E.tl.g3
theorem Obk.g5(E:Obk w (x0::x1::x2::x3::x4::(b,e,l)::L)):Blk w b e l:=E.tl.g4
theorem Obk.g6(E:Obk w (x0::x1::x2::x3::x4::x5::(b,e,l)::L)):Blk w b e l:=E.tl.g5
theorem Obk.g7(E:Obk w (x0::x1::x2::x3::x4::x5::x6::(b,e,l)::L)):Blk w b e l:=E.tl.g6
theorem Obk.g8(E:Obk w (x0::x1::x2::x3::x4::x5::x6::x7::(b,e,l)::L)):Blk w b e l:=E.tl.g7
theorem Obk.g9(E:Obk w (x0::x1::x2::x3::x4::x5::x6::x7::x8::(b,e,l)::L)):Blk w b e l:=E.tl.g8
theorem Obk.g10(E:Obk w (x0::x1::x2::x3::x4::x5::x6::x7::x8::x9::(b,e,l)::L)):Blk w b e l:=E.tl.g9
theorem Obk.g11(E:Obk w (x0::x1::x2::x3::x4::x5::x6::x7::x8::x9::x10::(b,e,l)::L)):Blk w b e l:=E.tl.g10
theorem Obk.g12(E:Obk w (x0::x1::x2::x3::x4::x5::x6::x7::x8::x9::x10::x11::(b,e,l)::L)):Blk w b e l:=E.tl.g11
def selB{α:Type}:List Bool→List α→List α
 | true::m,x::L=>x::selB m L
 | false::m,_::L=>selB m L
 | _,_=>[]
theorem Ob {p : Prop} (h : p := by simp [selB]) : p := h
theorem Jhb{α:Type}:∀ (m:List Bool) (L:List α),(selB m L).Sublist L
 | [],L=>List.nil_sublist L
 | true::m,[]=>List.Sublist.slnil
 | false::m,[]=>List.Sublist.slnil
 | true::m,x::L=>(Jhb m L).cons_cons x
 | false::m,x::L=>(Jhb m L).cons x
theorem Wee{w:World}:∀ {L L':List (Nat×TypeId×List Value)},AllOb w L→L'.Sublist L→AllOb w L':=fun {L L'} h hs=>by
 induction hs with
 | slnil=>trivial
 | cons x hs ih=>obtain ⟨b,e,l⟩:=x;exact ih h.2
 | cons_cons x hs ih=>obtain ⟨b,e,l⟩:=x;exact ⟨h.1,ih h.2⟩
theorem Obk.sel(E:Obk w L)(m:List Bool):Obk w (selB m L):=⟨E.1.sublist ((Jhb m L).map _),Wee E.2 (Jhb m L)⟩
theorem Xra{L0:List (Nat×TypeId×List Value)}(hn:(L0.map Prod.fst).Nodup)(hA:AllOb w L)(h:L.map Prod.fst=L0.map Prod.fst):Obk w L:=⟨h▸hn,hA⟩
theorem Obk.ne(E:Obk w L){b b':Nat}{e e':TypeId}{l l':List Value}(i j:Nat)(hi:L[i]? = some (b,e,l))(hj:L[j]? = some (b',e',l'))(hij:Aaa i j=false):b≠b':=fun q=>by
 have h:=E.1;have h1:(L.map Prod.fst)[i]? = some b:=by rw [List.getElem?_map,hi];rfl
 have h2:(L.map Prod.fst)[j]? = some b':=by rw [List.getElem?_map,hj];rfl
 obtain ⟨hi',e1⟩:=Ava.1 h1;obtain ⟨hj',e2⟩:=Ava.1 h2;have hp:=List.pairwise_iff_getElem.1 h;rcases Nat.lt_trichotomy i j with c|c|c;exact hp i j hi' hj' c (e1.trans (q.trans e2.symm));subst c;simp at hij;exact hp j i hj' hi' c (e2.trans (q.symm.trans e1.symm))
end
section
variable {P:Program} {n:Nat} {σ:List Ent} {c:Prop} {wb:World} {ty:TypeId} {v:Value}
end
end Go.Rk
namespace Go.Rk
open Go.Proofs
open Go
@[reducible] noncomputable def PP:Program:=Tryz.prog
theorem mix:PP.follows .mixedOrders=true:=KR
theorem Znd:goFn PP 10=true:=KR
theorem Wbd:goFn PP 15=true:=KR
theorem Zod:goFn PP 17=true:=KR
theorem Xlc:goFn PP 18=true:=KR
theorem Zpd:goFn PP 21=true:=KR
theorem Yta:goFn PP 26=true:=KR
theorem Xtc:goFn PP 27=true:=KR
theorem Zob:goFn PP 28=true:=KR
theorem Ysb:goFn PP 29=true:=KR
theorem Zhb:goFn PP 30=true:=KR
theorem Yea:goFn PP 31=true:=KR
theorem Yh:goFn PP 32=true:=KR
theorem Zqd:goFn PP 44=true:=KR
theorem Ubb:goFn PP 50=true:=KR
theorem Zrd:goFn PP 51=true:=KR
theorem Jy:goFn PP 52=true:=KR
theorem Xyb:goFn PP 53=true:=KR
theorem Wva:goFn PP 54=true:=KR
theorem Zwa:goFn PP 55=true:=KR
theorem Qp:goFn PP 56=true:=KR
theorem Uq:goFn PP 57=true:=KR
theorem Uob:goFn PP 58=true:=KR
theorem Qkc:goFn PP 59=true:=KR
theorem Xmc:goFn PP 85=true:=KR
theorem Xzb:goFn PP 86=true:=KR
theorem Js:goFn PP 87=true:=KR
theorem Wcd:goFn PP 89=true:=KR
theorem Wdd:goFn PP 90=true:=KR
theorem Zib:goFn PP 94=true:=KR
theorem Vcc:goFn PP 95=true:=KR
theorem Ytb:goFn PP 96=true:=KR
theorem Xuc:goFn PP 102=true:=KR
theorem Yfa:goFn PP 104=true:=KR
theorem Vj:goFn PP 106=true:=KR
theorem Ucb:goFn PP 107=true:=KR
theorem Zpb:goFn PP 108=true:=KR
theorem Jaa:goFn PP 110=true:=KR
theorem Yj:goFn PP 111=true:=KR
theorem Qz:goFn PP 112=true:=KR
theorem Xw:goFn PP 113=true:=KR
theorem Xj:goFn PP 114=true:=KR
theorem Zqb:goFn PP 115=true:=KR
theorem Yub:goFn PP 116=true:=KR
theorem Wab:goFn PP 124=true:=KR
theorem Xvc:goFn PP 125=true:=KR
theorem Jib:goFn PP 133=true:=KR
theorem Qib:goFn PP 134=true:=KR
theorem Jta:goFn PP 137=true:=KR
theorem Zxa:goFn PP 138=true:=KR
theorem Xjb:goFn PP 141=true:=KR
theorem Jt:goFn PP 142=true:=KR
theorem Wia:goFn PP 159=true:=KR
theorem Zrb:goFn PP 161=true:=KR
theorem Wja:goFn PP 169=true:=KR
theorem Vva:goFn PP 175=true:=KR
theorem Xna:goFn PP 176=true:=KR
theorem Yvb:goFn PP 177=true:=KR
theorem Wbb:goFn PP 178=true:=KR
theorem Ywb:goFn PP 179=true:=KR
theorem Upb:goFn PP 180=true:=KR
theorem Xwc:goFn PP 181=true:=KR
theorem Udb:goFn PP 183=true:=KR
theorem Vgf:tySize PP 1=some 1:=KR
theorem Vhf:zeroOf PP 1=some (.nilFunc):=KR
theorem Qae:Up PP 1=true:=KR
theorem Qbe:tySize PP 2=some 1:=KR
theorem Qce:zeroOf PP 2=some (.int .i64 0):=KR
theorem Wfe:Up PP 2=true:=KR
theorem Wz:tySize PP 3=some 1:=KR
theorem Zyc:zeroOf PP 3=some (.int .i64 0):=KR
theorem Yi:Up PP 3=true:=KR
theorem Qde:Jeb PP 3=some .i64:=KR
theorem Zte:tySize PP 4=some 1:=KR
theorem Zsd:zeroOf PP 4=some (.bool false):=KR
theorem Qee:Up PP 4=true:=KR
theorem Wed:PP.underlying 4=some .bool:=KR
theorem Qfe:tySize PP 5=some 1:=KR
theorem Qge:zeroOf PP 5=some (.int .u8 0):=KR
theorem Wge:Up PP 5=true:=KR
theorem Wfd:Jeb PP 5=some .u8:=KR
theorem Whe:tySize PP 9=some 1:=KR
theorem Wie:zeroOf PP 9=some (.string ⟨#[]⟩):=KR
theorem Xc:Up PP 9=true:=KR
theorem Yt:Jab PP 9=true:=KR
theorem Ztd:tySize PP 20=some 1:=KR
theorem Zud:zeroOf PP 20=some (.nilIface):=KR
theorem Qlc:Up PP 20=true:=KR
theorem Jjb:PP.isIface 20=true:=KR
theorem Qf:tySize PP 22=some 1:=KR
theorem Vdc:zeroOf PP 22=some (.slice none 0 0):=KR
theorem Zi:Up PP 22=true:=KR
theorem Zd:tyElem PP 22=some (26,9,104):=KR
theorem Xy:tySize PP 24=some 2:=KR
theorem Xl:zeroOf PP 24=some (.agg #[.int .i64 0,.string ⟨#[]⟩]):=KR
theorem Zo:Xqa PP 24=some 2:=KR
theorem Vc:Zvc PP 24=some [0,1]:=KR
theorem Uqb:Yu PP 24 0=some 0:=KR
theorem Urb:Yu PP 24 1=some 1:=KR
theorem Ul:Wy PP 24=some [(0,1),(1,1)]:=KR
theorem Xa:tySize PP 26=some 9:=KR
theorem Zp:zeroOf PP 26=some (.agg #[.int .i64 0,.string ⟨#[]⟩,.int .i64 0,.int .i64 0,.slice none 0 0,.int .i64 0,.string ⟨#[]⟩,.int .i64 0,.int .i64 0]):=KR
theorem Zg:Xqa PP 26=some 9:=KR
theorem Wd:Yu PP 26 0=some 0:=KR
theorem Wx:Yu PP 26 1=some 1:=KR
theorem Qq:Yu PP 26 2=some 2:=KR
theorem Wb:Yu PP 26 3=some 3:=KR
theorem Zf:Yu PP 26 4=some 4:=KR
theorem Yp:Yu PP 26 5=some 5:=KR
theorem Yha:Yu PP 26 6=some 7:=KR
theorem Zjb:Yu PP 26 7=some 8:=KR
theorem Xs:Wy PP 26=some [(0,1),(1,1),(2,1),(3,1),(4,1),(5,2),(7,1),(8,1)]:=KR
theorem Qha:tySize PP 30=some 1:=KR
theorem Jkb:zeroOf PP 30=some (.int .i64 0):=KR
theorem Xsa:Up PP 30=true:=KR
theorem Zzc:tySize PP 48=some 2:=KR
theorem Zsb:zeroOf PP 48=some (.agg #[.int .i64 0,.int .i64 0]):=KR
theorem Jlb:Xqa PP 48=some 2:=KR
theorem Jmb:Zwc PP 48=true:=KR
theorem Jba:Yu PP 48 0=some 0:=KR
theorem Jca:Yu PP 48 1=some 1:=KR
theorem Ztb:Wy PP 48=some [(0,1),(1,1)]:=KR
theorem Qjb:tySize PP 50=some 1:=KR
theorem Qkb:zeroOf PP 50=some (.pointer none):=KR
theorem Ueb:Up PP 50=true:=KR
theorem Qlb:tySize PP 51=some 1:=KR
theorem Qmb:zeroOf PP 51=some (.map none):=KR
theorem Zea:Up PP 51=true:=KR
theorem Yxb:tySize PP 52=some 1:=KR
theorem Yyb:zeroOf PP 52=some (.map none):=KR
theorem Zoa:Up PP 52=true:=KR
theorem Jnb:tySize PP 53=some 1:=KR
theorem Job:zeroOf PP 53=some (.map none):=KR
theorem Jda:Up PP 53=true:=KR
theorem Uha:tySize PP 54=some 1:=KR
theorem Uia:zeroOf PP 54=some (.map none):=KR
theorem Vk:Up PP 54=true:=KR
theorem Uf:tySize PP 55=some 1:=KR
theorem Zub:zeroOf PP 55=some (.slice none 0 0):=KR
theorem Ys:Up PP 55=true:=KR
theorem Yx:tyElem PP 55=some (82,1,24):=KR
theorem Vmb:tySize PP 56=some 1:=KR
theorem Wje:zeroOf PP 56=some (.slice none 0 0):=KR
theorem Yzb:Up PP 56=true:=KR
theorem Yia:tyElem PP 56=some (3,1,8):=KR
theorem Qv:tySize PP 57=some 1:=KR
theorem Vec:zeroOf PP 57=some (.slice none 0 0):=KR
theorem Uz:Up PP 57=true:=KR
theorem Wq:tyElem PP 57=some (24,2,24):=KR
theorem Yac:tySize PP 59=some 16:=KR
theorem Zvb:zeroOf PP 59=some (.agg #[.int .i64 0,.string ⟨#[]⟩,.int .i64 0,.int .i64 0,.slice none 0 0,.int .i64 0,.string ⟨#[]⟩,.int .i64 0,.int .i64 0,.map none,.map none,.map none,.map none,.slice none 0 0,.slice none 0 0,.slice none 0 0]):=KR
theorem Jpb:Xqa PP 59=some 16:=KR
theorem Jea:Yu PP 59 0=some 0:=KR
theorem Zya:Yu PP 59 1=some 9:=KR
theorem Waa:Yu PP 59 2=some 10:=KR
theorem Jfa:Yu PP 59 3=some 11:=KR
theorem Jm:Yu PP 59 4=some 12:=KR
theorem Xe:Yu PP 59 5=some 13:=KR
theorem Zza:Yu PP 59 6=some 14:=KR
theorem Qb:Yu PP 59 7=some 15:=KR
theorem Zwb:Wy PP 59=some [(0,9),(9,1),(10,1),(11,1),(12,1),(13,1),(14,1),(15,1)]:=KR
theorem Yna:tySize PP 61=some 4:=KR
theorem Qg:zeroOf PP 61=some (.agg #[.int .i64 0,.slice none 0 0,.int .i64 0,.string ⟨#[]⟩]):=KR
theorem Jga:Xqa PP 61=some 4:=KR
theorem Uya:Yu PP 61 0=some 0:=KR
theorem Zfa:Yu PP 61 1=some 1:=KR
theorem Zga:Yu PP 61 2=some 2:=KR
theorem Wka:Wy PP 61=some [(0,1),(1,1),(2,2)]:=KR
theorem Uja:tySize PP 64=some 1:=KR
theorem Uka:zeroOf PP 64=some (.pointer none):=KR
theorem Vwa:Up PP 64=true:=KR
theorem Vda:tySize PP 65=some 1:=KR
theorem Vea:zeroOf PP 65=some (.slice none 0 0):=KR
theorem Wta:Up PP 65=true:=KR
theorem Vfa:tyElem PP 65=some (96,6,64):=KR
theorem Jha:tySize PP 67=some 17:=KR
theorem Jia:zeroOf PP 67=some (.agg #[.int .i64 0,.string ⟨#[]⟩,.int .i64 0,.int .i64 0,.slice none 0 0,.int .i64 0,.string ⟨#[]⟩,.int .i64 0,.int .i64 0,.slice none 0 0,.int .i64 0,.int .i64 0,.slice none 0 0,.int .i64 0,.string ⟨#[]⟩,.int .i64 0,.int .i64 0]):=KR
theorem Qia:Xqa PP 67=some 17:=KR
theorem Ula:Yu PP 67 0=some 0:=KR
theorem Uma:Yu PP 67 1=some 9:=KR
theorem Una:Yu PP 67 2=some 10:=KR
theorem Uoa:Yu PP 67 3=some 11:=KR
theorem Upa:Yu PP 67 4=some 12:=KR
theorem Uqa:Yu PP 67 5=some 13:=KR
theorem Ura:Yu PP 67 6=some 15:=KR
theorem Usa:Yu PP 67 7=some 16:=KR
theorem Jja:Wy PP 67=some [(0,9),(9,1),(10,1),(11,1),(12,1),(13,2),(15,1),(16,1)]:=KR
theorem Xxa:tySize PP 70=some 1:=KR
theorem Xxc:zeroOf PP 70=some (.slice none 0 0):=KR
theorem Vd:Up PP 70=true:=KR
theorem Yv:tyElem PP 70=some (94,3,32):=KR
theorem Qja:tySize PP 73=some 1:=KR
theorem Qka:zeroOf PP 73=some (.pointer none):=KR
theorem Uta:Up PP 73=true:=KR
theorem Jua:tySize PP 75=some 4:=KR
theorem Xia:zeroOf PP 75=some (.agg #[.slice none 0 0,.int .i64 0,.int .i64 0,.bool false]):=KR
theorem Jka:Xqa PP 75=some 4:=KR
theorem Ue:Yu PP 75 0=some 0:=KR
theorem Qd:Yu PP 75 1=some 1:=KR
theorem Yoa:Yu PP 75 2=some 2:=KR
theorem Qla:Yu PP 75 3=some 3:=KR
theorem Xja:Wy PP 75=some [(0,1),(1,1),(2,1),(3,1)]:=KR
theorem Xkb:tySize PP 79=some 1:=KR
theorem Xlb:zeroOf PP 79=some (.nilFunc):=KR
theorem Xab:Up PP 79=true:=KR
theorem Vxa:tySize PP 82=some 1:=KR
theorem Yua:zeroOf PP 82=some (.slice none 0 0):=KR
theorem Vy:Up PP 82=true:=KR
theorem Vl:tyElem PP 82=some (84,5,56):=KR
theorem Jqb:tySize PP 84=some 5:=KR
theorem Jv:zeroOf PP 84=some (.agg #[.string ⟨#[]⟩,.int .i64 0,.string ⟨#[]⟩,.int .i64 0,.int .i64 0]):=KR
theorem Yaa:Xqa PP 84=some 5:=KR
theorem Uza:Yu PP 84 0=some 0:=KR
theorem Qaa:Yu PP 84 1=some 1:=KR
theorem Qba:Yu PP 84 2=some 3:=KR
theorem Qca:Yu PP 84 3=some 4:=KR
theorem Wla:Wy PP 84=some [(0,1),(1,2),(3,1),(4,1)]:=KR
theorem Qa:tySize PP 94=some 3:=KR
theorem Xu:zeroOf PP 94=some (.agg #[.int .i64 0,.string ⟨#[]⟩,.int .i64 0]):=KR
theorem Wm:Xqa PP 94=some 3:=KR
theorem Jla:Yu PP 94 0=some 0:=KR
theorem Qh:Yu PP 94 1=some 1:=KR
theorem Wcb:Yu PP 94 2=some 2:=KR
theorem Qi:Wy PP 94=some [(0,1),(1,1),(2,1)]:=KR
theorem Qma:tySize PP 96=some 6:=KR
theorem Qna:zeroOf PP 96=some (.agg #[.string ⟨#[]⟩,.int .i64 0,.string ⟨#[]⟩,.int .i64 0,.int .i64 0,.int .i64 0]):=KR
theorem Uua:Xqa PP 96=some 6:=KR
theorem Vya:Yu PP 96 0=some 0:=KR
theorem Vza:Yu PP 96 1=some 1:=KR
theorem Uaa:Yu PP 96 2=some 3:=KR
theorem Uba:Yu PP 96 3=some 4:=KR
theorem Uca:Yu PP 96 4=some 5:=KR
theorem Qoa:Wy PP 96=some [(0,1),(1,2),(3,1),(4,1),(5,1)]:=KR
theorem Qnb:tySize PP 102=some 1:=KR
theorem Qob:zeroOf PP 102=some (.nilFunc):=KR
theorem Ufb:Up PP 102=true:=KR
theorem Ybc:tySize PP 103=some 1:=KR
theorem Zxb:zeroOf PP 103=some (.nilFunc):=KR
theorem Ypa:Up PP 103=true:=KR
theorem Zvd:tySize PP 108=some 13:=KR
theorem Zwd:zeroOf PP 108=some (.agg #[.string ⟨#[]⟩,.string ⟨#[]⟩,.string ⟨#[]⟩,.string ⟨#[]⟩,.string ⟨#[]⟩,.string ⟨#[]⟩,.string ⟨#[]⟩,.string ⟨#[]⟩,.string ⟨#[]⟩,.string ⟨#[]⟩,.string ⟨#[]⟩,.string ⟨#[]⟩,.string ⟨#[]⟩]):=KR
theorem Usb:Xqa PP 108=some 13:=KR
theorem Zxd:Zld PP 108=some 13:=KR
theorem Qpb:tySize PP 109=some 1:=KR
theorem Qqb:zeroOf PP 109=some (.nilFunc):=KR
theorem Ugb:Up PP 109=true:=KR
theorem Uhb:tySize PP 115=some 1:=KR
theorem Uib:zeroOf PP 115=some (.slice none 0 0):=KR
theorem Wdb:Up PP 115=true:=KR
theorem Zha:tyElem PP 115=some (103,1,8):=KR
theorem Wke:tySize PP 120=some 1:=KR
theorem Wle:zeroOf PP 120=some (.int .u64 0):=KR
theorem Qad:Up PP 120=true:=KR
theorem Vnb:Jeb PP 120=some .u64:=KR
theorem Jrb:tySize PP 123=some 1:=KR
theorem Jsb:zeroOf PP 123=some (.pointer none):=KR
theorem Qrb:Up PP 123=true:=KR
theorem Xyc:tySize PP 127=some 4:=KR
theorem Xzc:zeroOf PP 127=some (.agg #[.string ⟨#[]⟩,.int .i64 0,.slice none 0 0,.slice none 0 0]):=KR
theorem Ycc:Xqa PP 127=some 4:=KR
theorem Vg:Yu PP 127 0=some 0:=KR
theorem Yw:Yu PP 127 1=some 1:=KR
theorem Ja:Yu PP 127 2=some 2:=KR
theorem Wma:Yu PP 127 3=some 3:=KR
theorem Wac:Wy PP 127=some [(0,1),(1,1),(2,1),(3,1)]:=KR
theorem Wbc:tySize PP 130=some 1:=KR
theorem Wcc:zeroOf PP 130=some (.slice none 0 0):=KR
theorem Ydc:Up PP 130=true:=KR
theorem Xgb:tyElem PP 130=some (134,3,40):=KR
theorem Zyd:tySize PP 134=some 3:=KR
theorem Qpa:zeroOf PP 134=some (.agg #[.string ⟨#[]⟩,.int .i64 0,.string ⟨#[]⟩]):=KR
theorem Qmc:Xqa PP 134=some 3:=KR
theorem Web:Yu PP 134 0=some 0:=KR
theorem Wfb:Yu PP 134 1=some 1:=KR
theorem Jtb:Wy PP 134=some [(0,1),(1,2)]:=KR
theorem Qhe:tySize PP 146=some 1:=KR
theorem Qie:zeroOf PP 146=some (.nilIface):=KR
theorem Wme:Up PP 146=true:=KR
theorem Wgd:PP.isIface 146=true:=KR
theorem Zzd:tySize PP 149=some 27:=KR
theorem Yad:zeroOf PP 149=some (.agg #[.string ⟨#[]⟩,.string ⟨#[]⟩,.string ⟨#[]⟩,.string ⟨#[]⟩,.string ⟨#[]⟩,.string ⟨#[]⟩,.string ⟨#[]⟩,.string ⟨#[]⟩,.string ⟨#[]⟩,.string ⟨#[]⟩,.string ⟨#[]⟩,.string ⟨#[]⟩,.string ⟨#[]⟩,.string ⟨#[]⟩,.string ⟨#[]⟩,.string ⟨#[]⟩,.string ⟨#[]⟩,.string ⟨#[]⟩,.string ⟨#[]⟩,.string ⟨#[]⟩,.string ⟨#[]⟩,.string ⟨#[]⟩,.string ⟨#[]⟩,.string ⟨#[]⟩,.string ⟨#[]⟩,.string ⟨#[]⟩,.string ⟨#[]⟩]):=KR
theorem Utb:Xqa PP 149=some 27:=KR
theorem Ybd:Zld PP 149=some 27:=KR
theorem Yec:tySize PP 152=some 1:=KR
theorem Yfc:zeroOf PP 152=some (.int .i64 0):=KR
theorem Jub:Up PP 152=true:=KR
theorem Xmb:tySize PP 156=some 1:=KR
theorem Xnb:zeroOf PP 156=some (.pointer none):=KR
theorem Xbb:Up PP 156=true:=KR
theorem Whd:tySize PP 160=some 1:=KR
theorem Wid:zeroOf PP 160=some (.slice none 0 0):=KR
theorem Ycd:Up PP 160=true:=KR
theorem Wjd:tyElem PP 160=some (5,1,1):=KR
theorem Ujb:tySize PP 162=some 3:=KR
theorem Ukb:zeroOf PP 162=some (.agg #[.string ⟨#[]⟩,.string ⟨#[]⟩,.nilIface]):=KR
theorem Wgb:Xqa PP 162=some 3:=KR
theorem Xob:Yu PP 162 0=some 0:=KR
theorem Xpb:Yu PP 162 1=some 1:=KR
theorem Xqb:Yu PP 162 2=some 2:=KR
theorem Ulb:Wy PP 162=some [(0,1),(1,1),(2,1)]:=KR
theorem Qbd:tySize PP 164=some 1:=KR
theorem Qcd:zeroOf PP 164=some (.pointer none):=KR
theorem Wkd:Up PP 164=true:=KR
end Go.Rk
namespace Go.Rk
open Go.Proofs
open Go Go.RowKit
/-! frames without their deferred calls -/
def wd(ds:List Deferred)(a:Act):Act:={ a with defers:=ds }
theorem Qsb(ds:List Deferred)(a:Act)(d:Option Tmp)(v:Value):(wd ds a).put d v=wd ds (a.put d v):=by cases d <;> rfl
theorem Zue(a:Act):wd a.defers (wd [] a)=a:=by cases a;rfl
theorem Whb{a:Act}(h:a.defers=[])(ds:List Deferred):wd [] (wd ds a)=a:=by cases a;cases h;rfl
theorem Kn.strip{n:Nat}{σ:List Ent}{a:Act}(h:Kn n σ a)(ds:List Deferred):wd [] (wd ds a)=a:=Whb h.2.1 ds
theorem Yba(a:Act)(d:Option Tmp)(v:Value):(a.put d v).defers=a.defers:=by cases d <;> rfl
abbrev DPost:=List Deferred→Act→World→Prop
def onD(N:DPost)(a:Act)(w:World):Prop:=N a.defers (wd [] a) w
theorem RS.wd{P:Program}{Z:List PanicEntry→DPost}{ops:Array Oper}{cl:Nat→Nat}{lv:Nat→Bool}{W0:World}{N:DPost}(ds:List Deferred):∀ (L:List Nat) (a:Act) (w:World),a.defers=[]→
  RS P (fun ch a w=>Z ch ds a w) ops cl lv W0 (N ds) L a w→RS P (fun ch=>onD (Z ch)) ops cl lv W0 (onD N) L (wd ds a) w
 | [],a,w,h0,h=>by
  show N ds (Go.Rk.wd [] (Go.Rk.wd ds a)) w;rw [Whb h0];exact h
 | i::rest,a,w,h0,⟨o,ho,hb⟩=>by
  refine ⟨o,ho,?_⟩;by_cases hc:cl i=0∨cl i=3;rw [if_pos hc] at hb ⊢;obtain ⟨v,h1,h2,h3⟩:=hb;refine ⟨v,h1,h2,?_⟩;rw [Qsb];exact RS.wd ds rest _ _ ((Yba a o.dst v).trans h0) h3;rw [if_neg hc] at hb ⊢;by_cases hw:Region.wanted o (yielded ops a.tmps)=true;rw [if_pos hw] at hb;refine (if_pos (show Region.wanted o (yielded ops (Go.Rk.wd ds a).tmps)=true from hw)).mpr ?_;refine Eff.turn (a:=a) (b:=Go.Rk.wd ds a) J (fun ch w' hz=>?_) (fun v w' _ hk=>?_) hb;show Z ch ds (Go.Rk.wd [] (Go.Rk.wd ds a)) w';rw [Whb h0];exact hz;rw [Qsb];exact RS.wd ds rest _ _ ((Yba a o.dst v).trans h0) hk;rw [if_neg hw] at hb;refine (if_neg (show ¬ Region.wanted o (yielded ops (Go.Rk.wd ds a).tmps)=true from hw)).mpr ?_;rw [Qsb];exact RS.wd ds rest _ _ ((Yba a o.dst undef).trans h0) hb
theorem RT.wd{P:Program}{Z:List PanicEntry→DPost}{ops:Array Oper}{cl:Nat→Nat}{wt:Nat→Nat→Bool}{row:RelX}{N:DPost}(ds:List Deferred):∀ (m:Nat) (L:List Nat) (a:Act) (w:World),a.defers=[]→
  RT P (fun ch a w=>Z ch ds a w) ops cl wt row (N ds) m L a w→RT P (fun ch=>onD (Z ch)) ops cl wt row (onD N) m L (wd ds a) w
 | 0,L,a,w,h0,h=>⟨h.1,by
  show N ds (Go.Rk.wd [] (Go.Rk.wd ds a)) w;rw [Whb h0];exact h.2⟩
 | m+1,L,a,w,h0,.inl ⟨r,hr,hav,hc,o,ho,v,h1,h2,h3⟩=>.inl ⟨r,hr,hav,hc,o,ho,v,h1,h2,by
  rw [Qsb];exact RT.wd ds m _ _ _ ((Yba a o.dst v).trans h0) h3⟩
 | m+1,L,a,w,h0,.inr ⟨hno,hall⟩=>.inr ⟨hno,fun j hj hav=>by
  obtain ⟨o,ho,hb⟩:=hall j hj hav;refine ⟨o,ho,?_⟩;by_cases hw:Region.wanted o (yielded ops a.tmps)=true;rw [if_pos hw] at hb;refine (if_pos (show Region.wanted o (yielded ops (Go.Rk.wd ds a).tmps)=true from hw)).mpr ?_;refine EffQ.turn (a:=a) (b:=Go.Rk.wd ds a) J (fun ch w' hz=>?_) (fun v w' _ hk=>?_) hb;show Z ch ds (Go.Rk.wd [] (Go.Rk.wd ds a)) w';rw [Whb h0];exact hz;rw [Qsb];exact RT.wd ds m _ _ _ ((Yba a o.dst v).trans h0) hk;rw [if_neg hw] at hb;refine (if_neg (show ¬ Region.wanted o (yielded ops (Go.Rk.wd ds a).tmps)=true from hw)).mpr ?_;rw [Qsb];exact RT.wd ds m _ _ _ ((Yba a o.dst undef).trans h0) hb⟩
def QofD(N:DPost)(X:List (Nat×DPost))(T:DPost)(Z:List PanicEntry→DPost):Exit→Act→World→Prop
 | .normal,a,w=>onD N a w
 | .ret,a,w=>onD T a w
 | .exit id,a,w=>match X.lookup id with|some k=>onD k a w|none=>False
 | .panic ch,a,w=>onD (Z ch) a w
 | _,_,_=>False
def SCD(P:Program)(ρ:Option Nat)(n:Nat)(ds:List Deferred)(c:Code)(N:DPost)(X:List (Nat×DPost))(T:DPost)(Z:List PanicEntry→DPost)(σ:List Ent)(w:World):Prop :=
 ∀ a,Kn n σ a→c.wpIn (WF ρ) 0 P (QofD N X T Z) (wd ds a) w
section
variable {P:Program} {ρ:Option Nat} {n:Nat} {ds:List Deferred} {N T:DPost} {X:List (Nat×DPost)} {Z:List PanicEntry→DPost} {σ:List Ent} {w:World}
theorem Qqa{c:Code}(τ:List Ent)(hs:Sub τ σ)(h:SCD P ρ n ds c N X T Z τ w):SCD P ρ n ds c N X T Z σ w:=fun a ha=>h a (ha.sub hs)
theorem Wt{x y:Code}(h:∀ K:DPost,(∀ ds τ u,SCD P ρ n ds y N X T Z τ u→∀ a,Kn n τ a→K ds a u)→SCD P ρ n ds x K X T Z σ w):SCD P ρ n ds (.seq x y) N X T Z σ w:=fun a ha=>by
 refine wpIn_seq (wpIn_mono (h (fun ds a w=>y.wpIn (WF ρ) 0 P (QofD N X T Z) (wd ds a) w) (fun ds τ u hy a ha=>hy a ha) a ha) (fun e a w q=>?_))
 cases e with
 | normal =>
  have q:y.wpIn (WF ρ) 0 P (QofD N X T Z) (wd a.defers (wd [] a)) w:=q;rw [Zue] at q;exact q
 | _=>exact q
theorem Jvb(h:∀ a,Kn n σ a→N ds a w):SCD P ρ n ds .skip N X T Z σ w:=fun a ha=>wpIn_skip (show N ds (wd [] (wd ds a)) w by rw [ha.strip];exact h a ha)
theorem Jwb(h:∀ a,Kn n σ a→T ds a w):SCD P ρ n ds .ret N X T Z σ w:=fun a ha=>wpIn_ret (show T ds (wd [] (wd ds a)) w by rw [ha.strip];exact h a ha)
theorem Qje{id:Nat}{k:DPost}(hk:X.lookup id=some k)(h:∀ a,Kn n σ a→k ds a w):SCD P ρ n ds (.exit id) N X T Z σ w:=fun a ha=>wpIn_exit (by
 show match X.lookup id with|some k=>onD k (wd ds a) w|none=>False
 rw [hk];show k ds (wd [] (wd ds a)) w;rw [ha.strip];exact h a ha)
theorem Vob{id:Nat}{c:Code}(h:SCD P ρ n ds c N ((id,N)::X) T Z σ w):SCD P ρ n ds (.block id c) N X T Z σ w:=fun a ha=>by
 refine wpIn_block (wpIn_mono (h a ha) (fun e a w q=>?_))
 cases e with
 | exit id' =>
  simp only [Exit.inBlock];by_cases he:id'=id;subst he;rw [if_pos rfl];simpa [QofD,List.lookup] using q;rw [if_neg he];simp only [QofD] at q ⊢;rw [List.lookup_cons] at q;have:(id' == id)=false:=by simpa using he
  rw [this] at q;exact q
 | _=>exact q
theorem Wib{x:Operand}{b:Bool}{p q:Code}(hx:Ev n σ True x (.bool b))(h1:b=true→SCD P ρ n ds p N X T Z σ w)(h2:b=false→SCD P ρ n ds q N X T Z σ w):SCD P ρ n ds (.cond x p q) N X T Z σ w:=fun a ha =>
 wpIn_cond_split (show (wd ds a).eval x = .bool b from hx a ha trivial) (fun h=>h1 h a ha) (fun h=>h2 h a ha)
theorem Wl{id:Nat}{l:List Oper}(cl:List Nat)(h:SR P (fun ch a w=>Z ch ds a w) l cl [] w n (N ds) 0 l σ w):SCD P ρ n ds (.region id l.toArray false) N X T Z σ w:=fun a ha=>by
 have h1:=h (fun j o ho=>by simpa using ho) a ha;have e:lvOf []=fun _=>true:=by funext i;simp [lvOf]
 rw [e] at h1;have h2:=RS.wd (Z:=Z) (N:=N) ds _ a w ha.2.1 h1;rw [show List.range' 0 l.length=Aea l.toArray.size by rw [List.range_eq_range'];simp] at h2;exact Qrc (Z:=fun ch=>onD (Z ch)) (fun ch a w h=>h) h2
theorem Wne{c:Code}{α:Type}(I:α→World→Prop)(σf:α→List Ent)(df:α→List Deferred)(μ:α→Nat)(x0:α)(h0:I x0 w)(hd:df x0=ds)(hs:Sub (σf x0) σ)
 (round:∀ x w,I x w→SCD P ρ n (df x) c (fun ds' a' w'=>∃ y,df y=ds'∧Kn n (σf y) a'∧I y w'∧μ y < μ x) X T Z (σf x) w):SCD P ρ n ds (.loop c) N X T Z σ w:=fun a ha=>by
 intro b k cs hro hb hr
 have key:∀ m x a w,μ x=m→Kn n (σf x) a→I x w→
   ∃ e a' w',QofD N X T Z e a' w'∧ArrivesIn (Machine.fenced P (WF ρ)) P (lone (b.atR (wd (df x) a) (.code c :: .inLoop c::k)) cs w) b k cs e a' w':=by
  intro m
  induction m using Nat.strongRecOn with
  | _ m ih =>
   intro x a w hm hk hI
   obtain ⟨e,a₁,w₁,hq,harr⟩:=round x w hI a hk b (.inLoop c::k) cs hro hb hr
   cases e with
   | normal =>
    obtain ⟨y,hd1,hk1,hI1,hlt⟩:=hq
    obtain ⟨e₂,a₂,w₂,hq₂,harr₂⟩:=ih (μ y) (hm▸hlt) y _ w₁ rfl hk1 hI1
    rw [hd1,Zue] at harr₂
    exact ⟨e₂,a₂,w₂,hq₂,.of_steps (StepsIn.trans harr (.one (fenced_calm hb hr rfl) stepR_inLoop)) harr₂⟩
   | exit id=>exact ⟨.exit id,a₁,w₁,hq,.pass (x:=.inLoop c) rfl (fun _ _=>.inl Os) harr⟩
   | goto l=>exact hq.elim
   | ret=>exact ⟨.ret,a₁,w₁,hq,.pass (x:=.inLoop c) rfl (fun _ _=>.inl Os) harr⟩
   | panic ch=>exact ⟨.panic ch,a₁,w₁,hq,.pass (x:=.inLoop c) rfl (fun _ _=>.inl Os) harr⟩
   | outgrown=>exact hq.elim
 obtain ⟨e,a',w',hq,harr⟩:=key _ x0 a w rfl (ha.sub hs) h0;rw [hd] at harr;exact ⟨e,a',w',hq,.of_steps (.one (fenced_calm hb hr rfl) stepR_loop) harr⟩
theorem Woe{c:Code}{α:Type}(I:α→World→Prop)(σc:List Ent)(σf:α→List Ent)(μ:α→Nat)(x0:α)(h0:I x0 w)(hs:Sub (σf x0 ++ σc) σ)
 (round:∀ x w,I x w→SCD P ρ n ds c (fun ds' a' w'=>ds'=ds∧∃ y,Kn n (σf y ++ σc) a'∧I y w'∧μ y < μ x) X T Z (σf x ++ σc) w):SCD P ρ n ds (.loop c) N X T Z σ w:=by
 refine Wne I (fun x=>σf x ++ σc) (fun _=>ds) μ x0 h0 J hs fun x w h=>fun a ha=>wpIn_mono (round x w h a ha) (fun e a w q=>?_)
 cases e with
 | normal=>obtain ⟨q1,y,q2⟩:=q;exact ⟨y,q1.symm,q2⟩
 | _=>exact q
end
/-! calls that may panic; rounds -/
def RP(R:Value→World→Prop)(Rp:List PanicEntry→World→Prop)(e:Ending)(w:World):Prop:=(∃ v,e = .returned v∧R v w)∨(∃ ch,e = .panicked ch∧Rp ch w)
def RetP(P:Program)(f:FuncId)(args:Array Value)(w:World)(R:Value→World→Prop)(Rp:List PanicEntry→World→Prop):Prop:=Calls P f args w (RP R Rp)
theorem RetP.mono{P:Program}{f:FuncId}{args:Array Value}{w:World}{R R':Value→World→Prop}{Rp Rp':List PanicEntry→World→Prop}(h:RetP P f args w R Rp)(hr:∀ v w',R v w'→R' v w')(hp:∀ ch w',Rp ch w'→Rp' ch w'):RetP P f args w R' Rp' :=
 Calls.mono h fun _ _ h=>h.imp (fun ⟨v,e,k⟩=>⟨v,e,hr v _ k⟩) (fun ⟨ch,e,k⟩=>⟨ch,e,hp ch _ k⟩)
theorem RetP.ret{P:Program}{f:FuncId}{args:Array Value}{w:World}{R:Value→World→Prop}{Rp:List PanicEntry→World→Prop}(h:RetP P f args w R Rp)(hp:∀ ch w',¬ Rp ch w'):Ret P f args w R :=
 Calls.mono h fun _ _ h=>h.elim id fun ⟨_,_,k⟩=>absurd k (hp _ _)
def Yld(P:Program)(l:Nat)(args:Array Value)(w:World)(R:Value→World→Prop):Prop :=
 ∃ fn tmps asg body,(Instr.yield l args).run P w = .ok (.round l fn tmps asg body) w∧RoundIn Fence.wide 0 P l fn tmps asg body w fun e w'=>∃ v,e = .returned v∧R v w'
theorem Yld.mono{P:Program}{l:Nat}{args:Array Value}{w:World}{R R':Value→World→Prop}(h:Yld P l args w R)(hr:∀ v w',R v w'→R' v w'):Yld P l args w R':=by
 obtain ⟨fn,tmps,asg,body,h1,h2⟩:=h;exact ⟨fn,tmps,asg,body,h1,RoundIn.mono h2 fun _ _ ⟨v,e,k⟩=>⟨v,e,hr v _ k⟩⟩
@[reducible] def yldV(l:Nat):Value:=.func (.yield l) #[] #[]
section
variable {P:Program} {Z:List PanicEntry→Act→World→Prop} {ops:List Oper} {cl:List Nat} {lv:List Bool} {W0:World} {n:Nat} {K:Act→World→Prop} {k:Nat} {rest:List Oper} {σ:List Ent} {w:World} {d:Nat} {op:Op} {ty:TypeId} {pos:String} {after:Array Edge} {v:Value}
theorem Yva{f:FuncId}{args:Array Value}{R:Value→World→Prop}{Rp:List PanicEntry→World→Prop}(hb:(!Aaa (clOf cl k) 0 && !Aaa (clOf cl k) 3&&Aba d n)=true)(hr:RunC P n σ True w op ty f args)(hC:RetP P f args w R Rp)
 (hz:∀ ch w',Rp ch w'→∀ a,Kn n σ a→Z ch a w')
 (h:∀ v w',R v w'→(clOf cl k=1→G w w')∧SR P Z ops cl lv W0 n K (k+1) rest ((d,True,v) :: σ) w') :
 SR P Z ops cl lv W0 n K k (⟨some d,op,ty,pos,after,none⟩::rest) σ w:=.mk fun hl a ha=>by
 obtain ⟨h0,h1⟩:=Zka hl;simp only [Aca,Bool.not_eq_true'] at hb;rw [Afa,Aka];refine ⟨_,h0,?_⟩;rw [if_neg (fun he=>by rcases he with he|he <;> rw [he] at hb <;> simp at hb),if_pos Vjb]
 refine .inr (.inr (.inl ⟨f,args,hr _ _ _ _ a ha trivial,Calls.mono hC fun e w' h'=>?_⟩));rcases h' with ⟨v,he,hv⟩|⟨ch,he,hp⟩;obtain ⟨q1,q2⟩:=h v w' hv;exact .inl ⟨v,he,fun hh=>q1 (by simpa using hh),q2 h1 _ (ha.put hb.2 (fun _=>rfl) (fun hn=>absurd trivial hn))⟩;exact .inr ⟨ch,he,hz ch w' hp a ha⟩
end
/-! ends -/
def TD(P:Program)(fn:Func)(R:Value→World→Prop)(Rp:List PanicEntry→World→Prop):DPost:=fun ds a w=>LeavesInM Fence.wide 0 P fn a.tmps (RP R Rp) ds .returning w
def ZD(P:Program)(fn:Func)(R:Value→World→Prop)(Rp:List PanicEntry→World→Prop)(ch:List PanicEntry):DPost:=fun ds a w=>LeavesInM Fence.wide 0 P fn a.tmps (RP R Rp) ds (.panicking ch) w
theorem Wjb{P:Program}{f:FuncId}{fn:Func}{c:Code}{args:List Value}{w:World}{R:Value→World→Prop}{Rp:List PanicEntry→World→Prop}{m:Nat}(hf:P.funcs[f]? = some fn)(hb:fn.body=some c)(hm:args.length+(fn.ntmps-args.length)=m)
 (σ0:List Ent) (hs:Sub σ0 (argsK 0 args)) (hh:SCD P none m [] c (TD P fn R Rp) [] (TD P fn R Rp) (ZD P fn R Rp) σ0 w):RetP P f args.toArray w R Rp:=by
 have h0:=hh { tmps:=args.toArray++Axa (fn.ntmps-args.toArray.size) undef,defers:=[] } (Kn.sub (σ:=argsK 0 args) ?_ hs);refine callsIn_wide.1 (callsIn_of_wp_marks (F:=Fence.wide) (n:=0) hf hb trivial (wpIn_mono (F:=Fence.wide) h0 (fun e a w q=>?_)));rotate_left
 ·refine ⟨by simp [← hm],rfl,fun t c' v hl=>?_⟩
  obtain ⟨rfl,_,h3⟩:=Vca args 0 t c' v hl;refine ⟨fun _=>?_,fun hn=>absurd trivial hn⟩;rw [Bka] at h3;have hlt:t<args.length:=(Ava.1 h3).1;simp [Bla,hlt,h3];simpa [hlt] using h3
 cases e with
  | normal=>exact q
  | ret=>exact q
  | exit id=>exact q.elim
  | goto l=>exact q.elim
  | panic ch=>exact q
  | outgrown=>exact q.elim
section
variable {P:Program} {n:Nat} {fn:Func} {R:Value→World→Prop} {Rp:List PanicEntry→World→Prop} {σ:List Ent} {w:World} {ds:List Deferred}
theorem Ygc(h:∀ a,Kn n σ a→bodyPost P fn (fun e w'=>∃ v,e = .returned v∧R v w') .ret a w):∀ a,Kn n σ a→TD P fn R Rp [] a w:=fun a ha=>by
 have h1:=h a ha;unfold bodyPost at h1;obtain ⟨hd,v,hr,v',e,hv⟩:=h1;injection e with e;subst e;exact ⟨_,hr,.inl ⟨_,rfl,hv⟩⟩
theorem Yog{ch:List PanicEntry}(h:Rp ch w):∀ a,Kn n σ a→ZD P fn R Rp ch [] a w:=fun a ha=>.inr ⟨_,rfl,h⟩
@[reducible] def markD(db:Nat):Deferred:={ target:=.collected db,args:=#[] }
def RetB(P:Program)(f:FuncId)(args:Array Value)(w:World)(R:Value→World→Prop):Prop :=
 ∃ fn c,P.funcs[f]? = some fn∧fn.body=some c∧c.wp P (bodyPost P fn (fun e w'=>∃ v,e = .returned v∧R v w')) { tmps:=args++Axa (fn.ntmps-args.size) undef,defers:=[] } w
theorem RetB.ret{P:Program}{f:FuncId}{args:Array Value}{w:World}{R:Value→World→Prop}(h:RetB P f args w R):Ret P f args w R:=by
 obtain ⟨fn,c,hf,hb,h⟩:=h;exact calls_of_wp hf hb h
theorem RetB.mono{P:Program}{f:FuncId}{args:Array Value}{w:World}{R R':Value→World→Prop}(h:RetB P f args w R)(hr:∀ v w',R v w'→R' v w'):RetB P f args w R':=by
 obtain ⟨fn,c,hf,hb,h⟩:=h;refine ⟨fn,c,hf,hb,wp_mono h fun e a w q=>?_⟩;unfold bodyPost at q ⊢
 split at q <;> first
  | (obtain ⟨q0,v,q1,v',q3,q4⟩:=q;exact ⟨q0,v,q1,v',q3,hr _ _ q4⟩)
  | (obtain ⟨q1,v',q3,q4⟩:=q;exact ⟨q1,v',q3,hr _ _ q4⟩)
  | (obtain ⟨v',q3,q4⟩:=q;exact ⟨v',q3,hr _ _ q4⟩)
  | exact q.elim
theorem Vfc{f:FuncId}{fn:Func}{c:Code}{args:List Value}{R:Value→World→Prop}{m:Nat}(hf:P.funcs[f]? = some fn)(hb:fn.body=some c)(hm:args.length+(fn.ntmps-args.length)=m)
 (σ0:List Ent) (hs:Sub σ0 (argsK 0 args))
 (hh:SC P m c (fun a w=>bodyPost P fn (fun e w'=>∃ v,e = .returned v∧R v w') .normal a w) [] (fun a w=>bodyPost P fn (fun e w'=>∃ v,e = .returned v∧R v w') .ret a w)
 σ0 w):RetB P f args.toArray w R:=by
 refine ⟨fn,c,hf,hb,(Code.wp_mono (fun e a w q=>?_) (hh _ (Kn.sub (σ:=argsK 0 args) ?_ hs)))⟩
 cases e with
 | normal=>exact q
 | ret=>exact q
 | panic ch=>exact q.2.elim
 | _=>exact q.elim
 refine ⟨by simp [← hm],rfl,fun t c' v hl=>?_⟩;obtain ⟨rfl,_,h3⟩:=Vca args 0 t c' v hl;refine ⟨fun _=>?_,fun hn=>absurd trivial hn⟩;rw [Bka] at h3;have hlt:t<args.length:=(Ava.1 h3).1;simp [Bla,hlt,h3];simpa [hlt] using h3
theorem Xnc{f:FuncId}{args:Array Value}{u:FrameMode}{w:World}{R:Value→World→Prop}(h:RetB P f args w R):CallsDIn Fence.wide (0-1) P f args u w fun e u' w'=>u'=u∧∃ v,e = .returned v∧R v w':=by
 obtain ⟨fn,c,hf,hb,h⟩:=h;exact callsDIn_of_wp hf hb trivial (wpIn_wide.2 h)
@[reducible] def fnD(f:Nat)(cs args:Array Value):Deferred:={ target:=.fn (.func f) cs,args:=args }
theorem Ydd{f:Nat}{cs args:Array Value}{R':Value→World→Prop}(hgo:goFn P f=true)(hC:RetB P f (args++cs) w R')(h:∀ v w',R' v w'→∀ a,Kn n σ a→TD P fn R Rp ds a w'):∀ a,Kn n σ a→TD P fn R Rp (fnD f cs args::ds) a w:=fun a ha=>by
 refine ⟨by simp,.inr ⟨(fun h=>by cases h),.func f,cs,f,args++cs,rfl,Xtb hgo _ _,fun _ _=>trivial,?_⟩⟩;have h1:=Xnc (u:=.returning) hC;refine ⟨h1.1,fun c cs' hu hr=>?_⟩;obtain ⟨e,u',w',fr,⟨rfl,v,rfl,hv⟩,h2⟩:=h1.2 c cs' hu hr;refine ⟨.returned v,_,w',fr,?_,h2⟩;show LeavesInM _ _ _ _ _ _ _ (settle .returning) _;exact h v w' hv a ha
theorem Vif{f:Nat}{cs args:Array Value}{ch:List PanicEntry}{R':Value→World→Prop}(hgo:goFn P f=true)(hs:settle (.panicking ch) = .panicking ch)(hC:RetB P f (args++cs) w R')(h:∀ v w',R' v w'→∀ a,Kn n σ a→ZD P fn R Rp ch ds a w'):∀ a,Kn n σ a→ZD P fn R Rp ch (fnD f cs args::ds) a w:=fun a ha=>by
 refine ⟨by simp,.inr ⟨(fun h=>by cases h),.func f,cs,f,args++cs,rfl,Xtb hgo _ _,fun _ _=>trivial,?_⟩⟩;have h1:=Xnc (u:=.panicking ch) hC;refine ⟨h1.1,fun c cs' hu hr=>?_⟩;obtain ⟨e,u',w',fr,⟨rfl,v,rfl,hv⟩,h2⟩:=h1.2 c cs' hu hr;refine ⟨.returned v,_,w',fr,?_,h2⟩;show LeavesInM _ _ _ _ _ _ _ (settle (.panicking ch)) _;rw [hs];exact h v w' hv a ha
end
theorem RS.mono{P:Program}{Z:List PanicEntry→Act→World→Prop}{ops:Array Oper}{cl:Nat→Nat}{lv:Nat→Bool}{W0:World}{K K':Act→World→Prop}(hK:∀ a w,K a w→K' a w):∀ (L:List Nat) (a:Act) (w:World),RS P Z ops cl lv W0 K L a w→RS P Z ops cl lv W0 K' L a w
 | [],a,w,h=>hK _ _ h
 | i::rest,a,w,⟨o,ho,hb⟩=>by
  refine ⟨o,ho,?_⟩;by_cases hc:cl i=0∨cl i=3;rw [if_pos hc] at hb ⊢;obtain ⟨v,h1,h2,h3⟩:=hb;exact ⟨v,h1,h2,RS.mono hK rest _ _ h3⟩;rw [if_neg hc] at hb ⊢;by_cases hw:Region.wanted o (yielded ops a.tmps)=true;rw [if_pos hw] at hb ⊢;exact hb.turn rfl (fun _ _ h=>h) fun v w' _ hk=>RS.mono hK rest _ _ hk;rw [if_neg hw] at hb ⊢;exact RS.mono hK rest _ _ hb
/-! the operation that defers a call, last in its region -/
def RunD(P:Program)(n:Nat)(σ:List Ent)(w:World)(op:Op)(ty:TypeId)(d:Deferred):Prop :=
 ∀ (dst:Option Tmp) (pos:String) (after:Array Edge) (g:Option (Nat×Bool)) (a:Act),Kn n σ a→(execOp a.eval ⟨dst,op,ty,pos,after,g⟩).run P w = .ok (.defer d) w
theorem Vgc{P:Program}{n:Nat}{σ:List Ent}{w:World}{x:Operand}{f:Nat}{cs:Array Value}{xs:List Operand}{vs:List Value}{ats:Array TypeId}{ty:TypeId}(h:Ev n σ True x (.func (.func f) #[] cs))(hx:Vba n σ True xs vs) :
 RunD P n σ w (.defer { callee:=.value x,args:=xs.toArray,argTypes:=ats }) ty (fnD f cs vs.toArray):=fun dst pos after g a hk=>by
 have h2:xs.toArray.map a.eval=vs.toArray:=by rw [Bga,hx a hk trivial]
 simp [execOp,resolve,h a hk trivial,h2,Deferred.ofValue,fnD]
def KDef(P:Program)(o:Oper)(N:DPost)(ds:List Deferred)(a:Act)(w:World):Prop:=∃ d,(execOp a.eval o).run P w = .ok (.defer d) w∧N (d::ds) (a.put o.dst undef) w
theorem Yed{P:Program}{n:Nat}{σ:List Ent}{w:World}{op:Op}{ty:TypeId}{pos:String}{after:Array Edge}{d:Deferred}{N:DPost}{ds:List Deferred}(hr:RunD P n σ w op ty d)(h:∀ a,Kn n σ a→N (d::ds) a w):∀ a,Kn n σ a→KDef P ⟨none,op,ty,pos,after,none⟩ N ds a w:=fun a ha =>
 ⟨d,hr _ _ _ _ a ha,h a ha⟩
theorem Wda{P:Program}{F:Fence}{n:Nat}{ops:Array Oper}{Q:Exit→Act→World→Prop}{L2:List Nat}:∀ (L1:List Nat) (a:Act) (w:World),wpOpsIn F n P ops (Exit.then (fun a w=>wpOpsIn F n P ops Q L2 a w) Q) L1 a w→wpOpsIn F n P ops Q (L1++L2) a w
 | [],a,w,h=>h
 | i::L1,a,w,h=>by
  have e:=wpOpsIn_cons (F:=F) (n:=n) (P:=P) (ops:=ops) (Q:=Q) i (L1++L2) a w;rw [List.cons_append,e];have e1:=wpOpsIn_cons (F:=F) (n:=n) (P:=P) (ops:=ops) (Q:=Exit.then (fun a w=>wpOpsIn F n P ops Q L2 a w) Q) i L1 a w;rw [e1] at h;unfold wpOpIn at h ⊢
  cases ho:ops[i]? with
  | none=>simp only [ho] at h ⊢;exact Wda L1 _ _ h
  | some o =>
   simp only [ho] at h ⊢;by_cases hw:Region.wanted o (yielded ops a.tmps)=true;rw [if_pos hw] at h ⊢;refine ⟨h.1,?_⟩;have h2:=h.2;generalize (o.semAt F.round a.eval).run P w=r at *
   cases r with
   | ok x w' =>
    cases x <;> simp only [Oper.uponIn,LetsOut] at h2 ⊢ <;>
     first
      | exact Wda L1 _ _ h2
      | exact ⟨h2.1,CallsIn.mono h2.2 (fun e w'' he=>by cases e <;> first|exact Wda L1 _ _ he|exact he)⟩
      | exact ⟨h2.1,RowsIn.mono h2.2 (fun _ _ he=>Wda L1 _ _ he)⟩
      | exact ⟨h2.1,RoundIn.mono h2.2 (fun e w'' he=>by cases e <;> first|exact Wda L1 _ _ he|exact he)⟩
      | exact h2
   | halt x w'=>cases x <;> simp only [Oper.uponIn] at h2 ⊢ <;> exact h2
   rw [if_neg hw] at h ⊢;exact ⟨h.1,Wda L1 _ _ h.2⟩
section
variable {P:Program} {n:Nat} {ds:List Deferred} {N T:DPost} {X:List (Nat×DPost)} {Z:List PanicEntry→DPost} {σ:List Ent} {w:World}
theorem Jma{id k:Nat}{l:List Oper}{o:Oper}(cl:List Nat)(hk:Aaa l.length (k+1)=true)(ho:l[k]? = some o)(hg:o.guard=none)
 (h:SR P (fun ch a w=>Z ch ds a w) l cl [] w n (KDef P o N ds) 0 (l.take k) σ w):SCD P none n ds (.region id l.toArray false) N X T Z σ w:=fun a ha=>by
 have hk:=Ada hk
 have h1:=h (fun j o' ho'=>by
  rw [Bsa] at ho';split at ho';simpa using ho';cases ho') a ha
 have e:lvOf []=fun _=>true:=by funext i;simp [lvOf]
 rw [e] at h1;have h2:=RS.wd (Z:=Z) (N:=fun ds a w=>KDef P o N ds a w) ds _ a w ha.2.1 h1;refine wpIn_region ?_
 have hL:Aea l.toArray.size=List.range' 0 (l.take k).length++[k]:=by
  rw [Bba,Nat.min_eq_left O,Bda,hk,List.range_succ,List.range_eq_range']
 rw [hL];refine Wda _ _ _ (Wya (ρ:=none) (cl:=clOf cl) (W0:=w) (Z:=fun ch=>onD (Z ch)) (fun ch a w h=>h) _ _ _ ?_);refine RS.mono (fun a' w' hq=>?_) _ _ _ h2;obtain ⟨d,hr,hn⟩:=hq;have hw:Region.wanted o (yielded l.toArray a'.tmps)=true:=by unfold Region.wanted;rw [hg]
 show wpOpsIn (WF none) 0 P l.toArray (QofD N X T Z) [k] a' w';unfold wpOpsIn;simp only [Cja,ho];rw [if_pos hw];refine ⟨fun _ _=>trivial,?_⟩;have hr:(execOp a'.eval o).run P w' = .ok (.defer d) w':=hr;rw [show Oper.semAt (WF none).round a'.eval o=execOp a'.eval o from rfl,hr];have e1:(({ a' with defers:=d::a'.defers }:Act).put o.dst undef).defers=d::a'.defers:=Yba _ _ _
 have e2:wd [] (({ a' with defers:=d::a'.defers }:Act).put o.dst undef)=(wd [] a').put o.dst undef:=by
  cases o.dst <;> rfl
 show N (({ a' with defers:=d::a'.defers }:Act).put o.dst undef).defers (wd [] (({ a' with defers:=d::a'.defers }:Act).put o.dst undef)) w';rw [e1,e2];exact hn
end
section
variable {P:Program} {B:List PanicEntry→World→Prop} {ops:List Oper} {cl:List Nat} {lv:List Bool} {W0:World} {n:Nat} {K:Act→World→Prop} {k:Nat} {rest:List Oper} {σ:List Ent} {w:World} {d:Nat} {op:Op} {ty:TypeId} {pos:String} {after:Array Edge} {v:Value}
theorem Zyb{f:FuncId}{args:Array Value}{R:Value→World→Prop}{Rp:List PanicEntry→World→Prop}(hb:(!Aaa (clOf cl k) 0 && !Aaa (clOf cl k) 3&&Aba d n)=true)(hr:RunC P n σ True w op ty f args)(hC:RetP P f args w R Rp)
  (hz:∀ ch w',Rp ch w'→B ch w') (h:∀ v w',R v w'→(clOf cl k=1→G w w')∧SR P (ZA B) ops cl lv W0 n K (k+1) rest ((d,True,v) :: σ) w') :
  SR P (ZA B) ops cl lv W0 n K k (⟨some d,op,ty,pos,after,none⟩::rest) σ w:=Yva hb hr hC (fun ch w' hp a ha=>⟨ha.2.1,hz ch w' hp⟩) h
end
theorem Vz{P:Program}{f:FuncId}{fn:Func}{c:Code}{args:List Value}{w:World}{R:Value→World→Prop}{B:List PanicEntry→World→Prop}{m:Nat}(hf:P.funcs[f]? = some fn)(hb:fn.body=some c)(hm:args.length+(fn.ntmps-args.length)=m)
 (σ0:List Ent) (hs:Sub σ0 (argsK 0 args))
 (hh:SZ P B m c (fun a w=>bodyPost P fn (fun e w'=>∃ v,e = .returned v∧R v w') .normal a w) [] (fun a w=>bodyPost P fn (fun e w'=>∃ v,e = .returned v∧R v w') .ret a w) σ0 w):RetP P f args.toArray w R B:=by
 refine calls_of_wp hf hb (Code.wp_mono (fun e a w q=>?_) (hh.h _ (Kn.sub (σ:=argsK 0 args) ?_ hs)))
 cases e with
 | normal=>obtain ⟨h1,v,h2,h3⟩:=q;exact ⟨h1,v,h2,.inl h3⟩
 | ret=>obtain ⟨h1,v,h2,h3⟩:=q;exact ⟨h1,v,h2,.inl h3⟩
 | panic ch=>exact ⟨q.1,.inr ⟨ch,rfl,q.2⟩⟩
 | _=>exact q.elim
 refine ⟨by simp [← hm],rfl,fun t c' v hl=>?_⟩;obtain ⟨rfl,_,h3⟩:=Vca args 0 t c' v hl;refine ⟨fun _=>?_,fun hn=>absurd trivial hn⟩;rw [Bka] at h3;have hlt:t<args.length:=(Ava.1 h3).1;simp [Bla,hlt,h3];simpa [hlt] using h3
def KPan(P:Program)(B:List PanicEntry→World→Prop)(o:Oper)(a:Act)(w:World):Prop:=∃ v,(execOp a.eval o).run P w = .halt (.panic v) w∧a.defers=[]∧B [⟨v,false,false⟩] w
theorem Qnc{P:Program}{B:List PanicEntry→World→Prop}{n:Nat}{N T:Act→World→Prop}{X:List (Nat×(Act→World→Prop))}{σ:List Ent}{w:World}{id k:Nat}{l:List Oper}{o:Oper}(cl:List Nat)(hk:Aaa l.length (k+1)=true)(ho:l[k]? = some o)(hg:o.guard=none)
 (h:SR P (ZA B) l cl [] w n (KPan P B o) 0 (l.take k) σ w):SZ P B n (.region id l.toArray false) N X T σ w:=.mk fun a ha=>by
 have hk:=Ada hk
 have h1:=h (fun j o' ho'=>by
  rw [Bsa] at ho';split at ho';simpa using ho';cases ho') a ha
 have e:lvOf []=fun _=>true:=by funext i;simp [lvOf]
 rw [e] at h1;refine (wpIn_wide (P:=P)).1 (wpIn_region (F:=Fence.wide) (n:=0) ?_)
 have hL:Aea l.toArray.size=List.range' 0 (l.take k).length++[k]:=by
  rw [Bba,Nat.min_eq_left O,Bda,hk,List.range_succ,List.range_eq_range']
 rw [hL];refine Wda _ _ _ (Wya (ρ:=none) (cl:=clOf cl) (W0:=w) (Z:=ZA B) (fun ch a w h=>h) _ _ _ ?_);refine RS.mono (fun a' w' hq=>?_) _ _ _ h1;obtain ⟨v,hr,hd,hb⟩:=hq;have hw:Region.wanted o (yielded l.toArray a'.tmps)=true:=by unfold Region.wanted;rw [hg]
 show wpOpsIn Fence.wide 0 P l.toArray (Qof N X T B) [k] a' w';unfold wpOpsIn;simp only [Cja,ho];rw [if_pos hw];refine ⟨fun _ _=>trivial,?_⟩;rw [show Oper.semAt Fence.wide.round a'.eval o=execOp a'.eval o from rfl,hr];exact ⟨hd,hb⟩
theorem Vjf{P:Program}{B:List PanicEntry→World→Prop}{n:Nat}{σ:List Ent}{w:World}{x:Operand}{t:TypeId}{u:Value}{ty:TypeId}{pos:String}{after:Array Edge}(hx:Ev n σ True x (.iface t u))(hB:B [⟨.iface t u,false,false⟩] w) :
 ∀ a,Kn n σ a→KPan P B ⟨none,.panic x,ty,pos,after,none⟩ a w:=fun a ha=>by
 refine ⟨.iface t u,?_,ha.2.1,hB⟩;simp [execOp,hx a ha trivial,Instr.panic,goPanic]
end Go.Rk
