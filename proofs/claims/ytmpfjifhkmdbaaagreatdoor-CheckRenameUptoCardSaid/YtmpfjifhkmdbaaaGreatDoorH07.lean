/- Merged texts. Conditions: each text's own. -/
import Derived.Test.YtmpfjifhkmdbaaaGreatDoorH06
import Derived.Test.YtmpfjifhkmdbaaaGreatDoorH03
import Derived.Test.YtmpfjifhkmdbaaaGreatDoorH05
import Derived.Test.YtmpfjifhkmdbaaaGreatDoorH02
set_option linter.unusedSimpArgs false
set_option linter.unusedVariables false
set_option maxHeartbeats 16000000
set_option maxRecDepth 100000
open Bool renaming and_eq_true_iff→Aea,and_eq_true→Aga,xor→Baa
open Go renaming World→Aa,PanicEntry→Ba,Program→Da,Value→Ea
open Go.Region renaming wanted→Fa
open List renaming length_map→Aca,getD_eq_getElem?_getD→Ada,map_append→Afa,getElem_mem→Aha,all_eq_true→Aia,map_map→Ala,map_congr_left→Ana,length_append→Aoa,length_cons→Apa,mem_cons_self→Aqa,mem_cons→Ara,map_cons→Asa,getElem_map→Ata,not_mem_nil→Aua,mem_append_right→Awa,length_take→Axa,take_succ_eq_append_getElem→Aya,take_length→Aza,mem_cons_of_mem→Bda,mem_singleton→Bea,any_map→Bga,map_reverse→Bha,getElem?_append_right→Bia,getElem?_append_left→Bja,mem_append_left→Bla,length_erase_of_mem→Bma,getElem?_map→Bna,getElem?_eq_none→Boa,ext_getElem→Bpa,find?_cons→Bqa,drop_take→Bsa,length_eq_zero_iff→Bta,any_eq_false→Bua,find?_map→Bva,append_nil→Bwa,getElem?_eq_getElem→Bxa,nil_append→Bya,append_assoc→Bza,mem_of_find?_eq_some→Cba,find?_eq_none→Cca,filter_append→Cda,getLast?_eq_getElem?→Cea,mem_take_iff_getElem→Cfa,drop_of_length_le→Cga,take_of_length_le→Cha
open Nat renaming blt→Aaa,le_refl→Aba,beq→Aja,le_trans→Ama,add_assoc→Ava,sub_self→Bba,le_succ→Bca,le_add_right→Bfa,le_of_ble_eq_true→Bka,zero_add→Bra,ble_eq_true_of_le→Caa
open Option renaming map_eq_some_iff→Aka
namespace Go.Proofs
end Go.Proofs
namespace Go.Rk
open Go.Proofs
open Go Go.RowKit
def wantA(ops:List Oper)(σ:Sg):Option (Nat×Bool)→Option Bool
 | none=>some true
 | some (g,want)=>match (ops.toArray[g]?).bind (·.dst) with
  | some t=>match lk σ t with
   | some (.v (.c (.b x)))=>some (decide (x=want))
   | some .u=>some false
   | _=>none
  | none=>none
def fin(n:Nat)(d:Option Nat)(v:AV)(σ:Sg)(s s':Am):Option (Sg×Am):=bif okD n d v&&(usV (fun j=>Aaa j s'.nx) v&&Nat.ble s.nx s'.nx) then some (setS d v σ,s') else none
def empty(n:Nat)(d:Option Nat)(σ:Sg)(s:Am):Option (Sg×Am):=match d with
 | some t=>bif Aaa t n then some (ins t .u σ,s) else none
 | none=>some (σ,s)
def stepA(P:Da)(cf:Nat→List AV→Am→Option (AV×Am))(n:Nat)(ops:List Oper)(σ:Sg)(s:Am)(id:Nat)(o:Oper):Option (Sg×Am):=match wantA ops σ o.guard with
 | some false=>empty n o.dst σ s
 | some true=>match pA P σ o.op with
  | some v=>fin n o.dst v σ s s
  | none=>match lA P σ s.m o.op with
   | some (v,_)=>fin n o.dst (.v v) σ s s
   | none=>match eA P cf σ s id o.op with
    | some (v,s')=>fin n o.dst v σ s s'
    | none=>none
 | none=>none
def runT(P:Da)(cf:Nat→List AV→Am→Option (AV×Am))(n:Nat)(ops:List Oper):List Oper→Sg→Am→Option (Sg×Am)
 | [],σ,s=>some (σ,s)
 | o::r,σ,s=>match stepA P cf n ops σ ⟨s.nx+1,s.m⟩ s.nx o with
  | some (σ',s')=>runT P cf n ops r σ' s'
  | none=>none
section
variable {P:Da} {cf:Nat→List AV→Am→Option (AV×Am)} {w0 w:Aa} {ρ:Nat→Rv} {s s':Am} {σ σ':Sg} {id n:Nat} {ops:List Oper} {o:Oper} {a:Act}
theorem Vwb{b:Bool}(h:wantA ops σ o.guard=some b)(ha:Kn n (ent ρ σ) a):Fa o (yielded ops.toArray a.tmps)=b:=by
 obtain ⟨d,op,ty,pos,after,g⟩:=o
 cases g with
 | none=>cases h;rfl
 | some g =>
  obtain ⟨g,want⟩:=g;unfold wantA at h;dsimp only at h;split at h;rename_i t h1;split at h;rename_i x h2;injection h with h;subst h;have hw:=Jia (op:=op) (ty:=ty) (pos:=pos) (after:=after) (want:=want) (d:=d) (b:=x) (c0:=True) h1 (by rw [Jba,h2];rfl) ha;by_cases hx:x=want;rw [hw.2 ⟨trivial,hx⟩,Jyg hx];rw [Jxg hx]
  cases hq:Fa _ _ with
  | false=>rfl
  | true=>exact absurd (hw.1 hq).2 hx
  rename_i h2;injection h with h;subst h;have hw:=Jia (op:=op) (ty:=ty) (pos:=pos) (after:=after) (want:=want) (d:=d) (b:=false) (c0:=False) h1 (by rw [Jba,h2];rfl) ha
  cases hq:Fa _ _ with
  | false=>rfl
  | true=>exact (hw.1 hq).1.elim
  cases h;cases h
theorem Whd{d:Option Nat}{v:AV}(hd:okD n d v=true)(ha:Kn n (ent ρ σ) a):Kn n (ent ρ (setS d v σ)) (a.put d (vA ρ v)):=by
 cases d with
 | none=>exact ha
 | some t=>exact Wed (by cases v <;> first|exact hd|cases hd) ha
theorem Xbb{d:Option Nat}{v:AV}(h:fin n d v σ s s'=some (σ',s')):okD n d v=true∧usV (fun j=>Aaa j s'.nx) v=true∧s.nx≤s'.nx∧σ'=setS d v σ:=by
 unfold fin at h
 cases hq:okD n d v&&(usV (fun j=>Aaa j s'.nx) v&&Nat.ble s.nx s'.nx) with
 | false=>rw [hq] at h;cases h
 | true =>
  rw [hq,Zfh] at h;injection h with h;injection h with h1 h2;simp only [Aga] at hq;exact ⟨hq.1,hq.2.1,Bka hq.2.2,h1.symm⟩
theorem Qjc{d:Option Nat}{v:AV}{s1:Am}(h:fin n d v σ s s1=some (σ',s')):s1=s':=by
 unfold fin at h
 cases hq:okD n d v&&(usV (fun j=>Aaa j s1.nx) v&&Nat.ble s.nx s1.nx) with
 | false=>rw [hq] at h;cases h
 | true=>rw [hq,Zfh] at h;injection h with h;injection h with _ h
theorem Xsa{j a b:Nat}(h:Aaa j a=true)(hab:a≤b):Aaa j b=true:=Caa (Ama (Bka h) hab)
theorem Ws.mono{a b:Nat}(h:Ws σ a)(hab:a≤b):Ws σ b:=fun t x hl=>Qcd (fun j hj=>Xsa hj hab) (h t x hl)
theorem Qwb{d:Option Nat}{v:AV}{m:Nat}(h:Ws σ m)(hv:usV (fun j=>Aaa j m) v=true):Ws (setS d v σ) m:=by
 cases d with
 | none=>exact h
 | some t =>
  intro u x hl;have hl:lk (ins t v σ) u=some x:=hl;rw [Xab] at hl
  cases hb:Aja t u with
  | true=>rw [hb] at hl;injection hl with hl;subst hl;exact hv
  | false=>rw [hb] at hl;exact h u x hl
theorem Inv.bump(hi:Inv w0 ρ s w){m:Nat}(hm:s.nx≤m):Inv w0 ρ ⟨m,s.m⟩ w:=⟨hi.g,hi.ok,fun k B hk=>⟨Xsa (hi.wf k B hk).1 hm,Aia.2 fun a ha=>Ybb (fun j hj=>Xsa hj hm) (Aia.1 (hi.wf k B hk).2 a ha)⟩,hi.ne⟩
theorem Wid{j m:Nat}(h:Aaa j m=true):(!Aja j m)=true:=by
 have:=Bka h;rw [Vta O];rfl
theorem Urg(hi:Inv w0 ρ s w)(hw:Ws σ s.nx):Fre s.nx σ s.m:=⟨fun t x hl=>Qcd (fun j hj=>Wid hj) (hw t x hl),fun k B hk=>⟨by have:=Wid (hi.wf k B hk).1;simpa using this,Aia.2 fun a ha=>Ybb (fun j hj=>Wid hj) (Aia.1 (hi.wf k B hk).2 a ha)⟩⟩
theorem Qed{d:Option Nat}(h:empty n d σ s=some (σ',s'))(ha:Kn n (ent ρ σ) a)(hw:Ws σ s.nx):s'=s∧Ws σ' s.nx∧Kn n (ent ρ σ') (a.put d undef):=by
 cases d with
 | none=>injection h with h;injection h with h1 h2;subst h1 h2;exact ⟨rfl,hw,ha⟩
 | some t =>
  unfold empty at h;dsimp only at h
  cases hq:Aaa t n with
  | false=>rw [hq] at h;cases h
  | true =>
   rw [hq,Zfh] at h;injection h with h;injection h with h1 h2;subst h1 h2;exact ⟨rfl,Qwb (d:=some t) (v:=.u) hw rfl,Wed (v:=.u) hq ha⟩
theorem Qfd(h:stepA P cf n ops σ s id o=some (σ',s'))(hw:Ws σ s.nx):s.nx≤s'.nx∧Ws σ' s'.nx:=by
 unfold stepA at h
 have key:∀ {v:AV} {s1:Am},fin n o.dst v σ s s1=some (σ',s')→s.nx≤s'.nx∧Ws σ' s'.nx:=fun hf=>by
  obtain rfl:=Qjc hf;obtain ⟨h1,h2,h3,rfl⟩:=Xbb hf;exact ⟨h3,Qwb (hw.mono h3) h2⟩
 split at h
 cases hd:o.dst with
 | none=>rw [hd] at h;injection h with h;injection h with h1 h2;subst h1 h2;exact ⟨Aba _,hw⟩
 | some t =>
  rw [hd] at h;unfold empty at h;dsimp only at h
  cases hq:Aaa t n with
  | false=>rw [hq] at h;cases h
  | true=>rw [hq,Zfh] at h;injection h with h;injection h with h1 h2;subst h1 h2;exact ⟨Aba _,Qwb (d:=some t) (v:=.u) hw rfl⟩
 split at h;exact key h;split at h;exact key h;split at h;exact key h;cases h;cases h
theorem Vzf{Z:List Ba→Act→Aa→Prop}(hcf:CfOk P w0 cf)(h:stepA P cf n ops σ s id o=some (σ',s'))(hi:Inv w0 ρ s w)(hw:Ws σ s.nx)(hf:Fre id σ s.m)(hid:Aaa id s.nx=true)(ha:Kn n (ent ρ σ) a) :
 if Fa o (yielded ops.toArray a.tmps)=true then Eff P Z false o a w (Aft P w0 ρ s id n σ' s') else Aft P w0 ρ s id n σ' s' (a.put o.dst undef) w:=by
 unfold stepA at h;split at h;rename_i h0;rw [if_neg (by rw [Vwb h0 ha];simp)];obtain ⟨rfl,_,h2⟩:=Qed h ha hw;exact ⟨ρ,fun _ _=>rfl,hi,h2⟩;rename_i h0;rw [if_pos (Vwb h0 ha)];obtain ⟨d,op,ty,pos,after,g⟩:=o;split at h;rename_i v hv;obtain rfl:=Qjc h;obtain ⟨h1,h2,h3,rfl⟩:=Xbb h;exact .inl ⟨_,w,Wgg hv _ _ _ _ a ha trivial w (G.refl w),(fun h=>by cases h),ρ,fun _ _=>rfl,hi,Whd h1 ha⟩;split at h;rename_i v k hv;obtain rfl:=Qjc h;obtain ⟨h1,h2,h3,rfl⟩:=Xbb h;obtain ⟨B,hB,hr⟩:=Whg (ρ:=ρ) (n:=n) (c:=True) hv;exact .inl ⟨_,w,hr (hi.ok k B hB) _ _ _ _ a ha trivial w (G.refl w),(fun h=>by cases h),ρ,fun _ _=>rfl,hi,Whd h1 ha⟩;split at h;rename_i v s1 hv;obtain rfl:=Qjc h;obtain ⟨h1,h2,h3,rfl⟩:=Xbb h;exact Wig hcf hv h1 hi hw hf hid ha;cases h;cases h
theorem Wxe:∀ (l:List Oper) (σ:Sg) (s:Am),runT P cf n ops l σ s=some (σ',s')→Ws σ s.nx→s.nx≤s'.nx∧Ws σ' s'.nx
 | [],σ,s,h,hw=>by injection h with h;injection h with h1 h2;subst h1 h2;exact ⟨Aba _,hw⟩
 | o::r,σ,s,h,hw=>by
  unfold runT at h;split at h;rename_i σ1 s1 h1;obtain ⟨h2,h3⟩:=Qfd h1 (hw.mono (Bca _));obtain ⟨h4,h5⟩:=Wxe r σ1 s1 h h3;exact ⟨Ama (Bca _) (Ama h2 h4),h5⟩;cases h
theorem Wye{Z:List Ba→Act→Aa→Prop}{W0:Aa}(hcf:CfOk P w0 cf):∀ (l:List Oper) (k:Nat) (σ:Sg) (s:Am) (ρ:Nat→Rv) (a:Act) (w:Aa) (K:Act→Aa→Prop),(∀ j,l[j]? = ops[k+j]?)→runT P cf n ops l σ s=some (σ',s')→Inv w0 ρ s w→Ws σ s.nx→Kn n (ent ρ σ) a→
  (∀ ρ' a' w',(∀ j,Aaa j s.nx=true→ρ' j = ρ j)→Inv w0 ρ' s' w'→Kn n (ent ρ' σ') a'→K a' w')→RS P Z ops.toArray (fun _=>2) (fun _=>true) W0 K (List.range' k l.length) a w
 | [],k,σ,s,ρ,a,w,K,hl,h,hi,hw,ha,hK=>by
  injection h with h;injection h with h1 h2;subst h1 h2;exact hK ρ a w (fun _ _=>rfl) hi ha
 | o::r,k,σ,s,ρ,a,w,K,hl,h,hi,hw,ha,hK=>by
  unfold runT at h;split at h;rename_i σ1 s1 h1;have hw1:=hw.mono (Bca s.nx);obtain ⟨h2,h3⟩:=Qfd h1 hw1;have hid:Aaa s.nx (s.nx+1)=true:=Caa (Aba _);have hst:=Vzf (Z:=Z) hcf h1 (hi.bump (Bca s.nx)) hw1 (Urg hi hw) hid ha
  have hnext:∀ a' w',Aft P w0 ρ ⟨s.nx+1,s.m⟩ s.nx n σ1 s1 a' w'→RS P Z ops.toArray (fun _=>2) (fun _=>true) W0 K (List.range' (k+1) r.length) a' w':=by
   rintro a' w' ⟨ρ1,hA,hI,hk⟩;refine Wye hcf r (k+1) σ1 s1 ρ1 a' w' K (fun j=>by have:=hl (j+1);simpa [Ava,Nat.add_comm 1 j] using this) h hI h3 hk fun ρ' a2 w2 hA2 hI2 hk2=>hK ρ' a2 w2 (fun j hj=>?_) hI2 hk2;have hj1:Aaa j (s.nx+1)=true:=Xsa hj (Bca _);rw [hA2 j (Xsa hj1 h2)];exact hA j (by rw [hj1,Wid hj];rfl)
  rw [Apa,List.range'_succ];refine ⟨o,by have:=hl 0;simpa using this.symm,?_⟩;rw [if_neg (by intro h;rcases h with h|h <;> cases h)]
  split;rename_i hwt;rw [if_pos hwt] at hst;exact hst.turn rfl (fun _ _ h=>h) fun v w' _ hn=>hnext _ _ hn;rename_i hwt;rw [if_neg hwt] at hst;exact hnext _ _ hst;cases h
end
def clT(o:Oper):Nat:=match o.op with
 | .load ..=>0
 | .move .. | .assign .. | .pick .. | .nilCheck .. | .binOp .. | .unOp .. | .slice .. | .fieldAddr .. | .field .. | .indexAddr .. | .index .. | .extract .. | .build ..=>3
 | .store ..=>2
 | .call c=>match c.callee with
  | .builtin .len=>3
  | .builtin .append=>2
  | _=>1
 | _=>1
def masksA:List Oper→List Nat→List Nat
 | [],ms=>ms
 | o::r,ms=>masksA r (ms++[maskOf ms o.after.toList])
def freB(id:Nat)(σ:Sg)(m:List (Nat×AB)):Bool:=σ.all (fun x=>usV (fun j=>!Aja j id) x.2)&&m.all fun x=>!Aja x.1 id&&x.2.l.all (us0 fun j=>!Aja j id)
abbrev DR:=Option (Sg×Am×List Nat×List (List (Nat×AB)×List (Nat×AB)))
def runAll(f:Nat→DR):List Nat→DR
 | []=>none
 | [j]=>f j
 | j::r=>match f j,runAll f r with
  | some (σ1,s1,k1,n1),some (σ2,s2,k2,n2)=>if σ1 = σ2∧s1=s2 then some (σ1,s1,k1++k2,n1++n2) else none
  | _,_=>none
def Wze(k:List Nat)(n:List (List (Nat×AB)×List (Nat×AB))):DR→DR
 | some (σ,s,k',n')=>some (σ,s,k++k',n++n')
 | none=>none
def rdA(P:Da)(n B:Nat)(ops:List Oper)(σ:Sg)(s:Am)(o:Oper)(three:Bool):Option (Sg×List Nat):=match wantA ops σ o.guard with
 | some false=>(empty n o.dst σ s).map fun x=>(x.1,[])
 | some true=>bif three then (match pA P σ o.op with
   | some v=>(fin n o.dst v σ s s).map fun x=>(x.1,[])
   | none=>none)
  else match lA P σ s.m o.op with
   | some (v,k)=>bif Aaa k B then (fin n o.dst (.v v) σ s s).map fun x=>(x.1,[k]) else none
   | none=>none
 | none=>none
def efA(P:Da)(cf:Nat→List AV→Am→Option (AV×Am))(n:Nat)(ops:List Oper)(σ:Sg)(s:Am)(id:Nat)(o:Oper):Option (Sg×Am):=bif freB id σ s.m&&Aaa id s.nx then (match wantA ops σ o.guard with
 | some false=>empty n o.dst σ s
 | some true=>(match eA P cf σ s id o.op with
   | some (v,s')=>fin n o.dst v σ s s'
   | none=>none)
 | none=>none) else none
def runD(P:Da)(cf:Nat→List AV→Am→Option (AV×Am))(n B:Nat)(ops:List Oper)(cl ms:List Nat):Nat→List Nat→Sg→Am→DR
 | 0,L,σ,s=>bif L.isEmpty then some (σ,s,[],[]) else none
 | m+1,L,σ,s=>match L.find? (fun r=>availB ms L r&&isRdB cl r) with
  | some r=>match ops.toArray[r]? with
   | some o=>match rdA P n B ops σ s o (Aja (clOf cl r) 3) with
    | some (σ1,k1)=>Wze k1 [] (runD P cf n B ops cl ms m (L.erase r) σ1 s)
    | none=>none
   | none=>none
  | none=>runAll (fun j=>match ops.toArray[j]? with
   | some o=>match efA P cf n ops σ s (B+j) o with
    | some (σ1,s1)=>Wze [] (bif Aja (clOf cl j) 1 then [(s.m,s1.m)] else []) (runD P cf n B ops cl ms m (L.erase j) σ1 s1)
    | none=>none
   | none=>none) (candB cl ms L)
def runG(P:Da)(cf:Nat→List AV→Am→Option (AV×Am))(n:Nat)(ops:List Oper)(σ:Sg)(s:Am):Option (Sg×Am) :=
 bif okT ops (ops.map clT) (masksA ops []) then (match runD P cf n s.nx ops (ops.map clT) (masksA ops []) ops.length (List.range ops.length) σ ⟨s.nx+ops.length,s.m⟩ with
  | some (σ',s',kp,sn)=>bif kp.all (fun k=>Aaa k s.nx)&&sn.all (fun x=>kp.all fun k=>(lk x.1 k).isSome&&decide (lk x.1 k=lk x.2 k)) then some (σ',s') else none
  | none=>none) else none
section
variable {P:Da} {cf:Nat→List AV→Am→Option (AV×Am)} {w0 w:Aa} {ρ:Nat→Rv} {s s':Am} {σ σ':Sg} {id n:Nat} {ops:List Oper} {o:Oper} {a:Act}
theorem Yle{α:Type}{t:Nat}{v:α}:∀ {l:List (Nat×α)},lk l t=some v→(t,v)∈l
 | [],h=>by cases h
 | (k,x)::r,h=>by
  unfold lk at h
  cases hb:Aja k t with
  | true=>rw [hb] at h;injection h with h;subst h;rw [Nat.eq_of_beq_eq_true hb];exact Aqa
  | false=>rw [hb] at h;exact Bda _ (Yle h)
theorem Usg{m:List (Nat×AB)}(h:freB id σ m=true):Fre id σ m:=by
 obtain ⟨h1,h2⟩:=Aea.1 h;refine ⟨fun t x hl=>Aia.1 h1 _ (Yle hl),fun k B hk=>?_⟩;have:=Aia.1 h2 _ (Yle hk);obtain ⟨h3,h4⟩:=Aea.1 this;exact ⟨by simpa using h3,h4⟩
theorem Qxb{f:Nat→DR}:∀ {cs:List Nat} {σ':Sg} {s':Am} {kp:List Nat} {sn:List (List (Nat×AB)×List (Nat×AB))},runAll f cs=some (σ',s',kp,sn)→∀ j∈cs,∃ k1 n1,f j=some (σ',s',k1,n1)∧(∀ x∈k1,x∈kp)∧∀ x∈n1,x∈sn
 | [],_,_,_,_,h=>by cases h
 | [j],σ',s',kp,sn,h=>fun i hi=>by
  rw [Bea.1 hi];exact ⟨kp,sn,h,fun _ h=>h,fun _ h=>h⟩
 | j::i::r,σ',s',kp,sn,h=>by
  unfold runAll at h;split at h;rename_i σ1 s1 k1 n1 σ2 s2 k2 n2 h1 h2;split at h;rename_i he;obtain ⟨rfl,rfl⟩:=he;injection h with h;injection h with h3 h;injection h with h4 h;injection h with h5 h6;subst h3 h4 h5 h6;intro x hx;rcases Ara.1 hx with rfl|hx;exact ⟨k1,n1,h1,fun _ h=>Bla _ h,fun _ h=>Bla _ h⟩;obtain ⟨k3,n3,q1,q2,q3⟩:=Qxb h2 x hx;exact ⟨k3,n3,q1,fun _ h=>Awa _ (q2 _ h),fun _ h=>Awa _ (q3 _ h)⟩;cases h;cases h
theorem Zqc{k:List Nat}{n0:List (List (Nat×AB)×List (Nat×AB))}{r:DR}{kp:List Nat}{sn:List (List (Nat×AB)×List (Nat×AB))}(h:Wze k n0 r=some (σ',s',kp,sn)):∃ k' n',r=some (σ',s',k',n')∧kp=k++k'∧sn=n0++n':=by
 unfold Wze at h;split at h;injection h with h;injection h with h3 h;injection h with h4 h;injection h with h5 h6;subst h3 h4;exact ⟨_,_,rfl,h5.symm,h6.symm⟩;cases h
theorem Ytg{Z:List Ba→Act→Aa→Prop}{row:RelX}{gr:Bool}{K next:Act→Aa→Prop}(h:Eff P Z false o a w K)(hk:∀ a' w',K a' w'→(gr=true→GX row w w')∧next a' w'):EffQ P Z row gr o a w next:=by
 rcases h with ⟨v,w',hr,_,hn⟩|⟨w',hr,_,hn⟩|⟨f,args,hr,hc⟩|⟨l,f,tmps,asg,body,hr,hc⟩;exact .inl ⟨v,w',hr,hk _ _ hn⟩;exact .inr (.inl ⟨w',hr,hk _ _ hn⟩);refine .inr (.inr (.inl ⟨f,args,hr,Calls.mono hc fun e w' h=>?_⟩));rcases h with ⟨v,e1,_,h1⟩|⟨ch,e1,h1⟩;exact .inl ⟨v,e1,hk _ _ h1⟩;exact .inr ⟨ch,e1,h1⟩;refine .inr (.inr (.inr ⟨l,f,tmps,asg,body,hr,RoundIn.mono hc fun e w' h=>?_⟩));obtain ⟨v,e1,_,h1⟩:=h;exact ⟨v,e1,hk _ _ h1⟩
@[reducible] def keepR(ρ:Nat→Rv)(KF:List Nat):RelX:=⟨fun w w'=>∀ k∈KF,w'.heap[(ρ k).b]? = w.heap[(ρ k).b]?,fun _ _ _=>rfl,fun h h' k hk=>(h' k hk).trans (h k hk)⟩
theorem Zpd{d:Option Nat}{σ1:Sg}{k1:List Nat}(h:(empty n d σ s).map (fun x=>(x.1,([]:List Nat)))=some (σ1,k1)):empty n d σ s=some (σ1,s)∧k1=[]:=by
 obtain ⟨⟨x1,x2⟩,h1,h2⟩:=Aka.1 h;injection h2 with h2 h3;subst h2 h3;refine ⟨?_,rfl⟩;rw [h1]
 cases d with
 | none=>injection h1 with h1;injection h1 with _ h1;rw [h1]
 | some t =>
  unfold empty at h1;dsimp only at h1
  cases hq:Aaa t n with
  | false=>rw [hq] at h1;cases h1
  | true=>rw [hq,Zfh] at h1;injection h1 with h1;injection h1 with _ h1;rw [h1]
theorem Wvc{d:Option Nat}{v:AV}{σ1:Sg}{k1 k2:List Nat}(h:(fin n d v σ s s).map (fun x=>(x.1,k2))=some (σ1,k1)):fin n d v σ s s=some (σ1,s)∧k1=k2:=by
 obtain ⟨⟨x1,x2⟩,h1,h2⟩:=Aka.1 h;injection h2 with h2 h3;subst h2 h3;obtain rfl:=Qjc h1;exact ⟨h1,rfl⟩
theorem Uaf{B:Nat}{three:Bool}{σ1:Sg}{k1:List Nat}(h:rdA P n B ops σ s o three=some (σ1,k1))(hw:Ws σ s.nx):Ws σ1 s.nx:=by
 have key:∀ {v:AV},fin n o.dst v σ s s=some (σ1,s)→Ws σ1 s.nx:=fun hf=>by
  obtain ⟨h1,h2,h3,rfl⟩:=Xbb hf;exact Qwb hw h2
 unfold rdA at h;split at h;obtain ⟨h1,_⟩:=Zpd h
 cases hd:o.dst with
 | none=>rw [hd] at h1;injection h1 with h1;injection h1 with h1 _;subst h1;exact hw
 | some t =>
  rw [hd] at h1;unfold empty at h1;dsimp only at h1
  cases hq:Aaa t n with
  | false=>rw [hq] at h1;cases h1
  | true=>rw [hq,Zfh] at h1;injection h1 with h1;injection h1 with h1 _;subst h1;exact Qwb (d:=some t) (v:=.u) hw rfl
 cases three with
 | true =>
  rw [Zfh] at h;split at h;exact key (Wvc h).1;cases h
 | false =>
  rw [Zeh] at h;split at h;rename_i v k hv
  cases hq:Aaa k B with
  | false=>rw [hq] at h;cases h
  | true=>rw [hq,Zfh] at h;exact key (Wvc h).1
  cases h
 cases h
theorem Utg{B:Nat}{three:Bool}{σ1:Sg}{k1:List Nat}{ρB:Nat→Rv}{KF:List Nat}(h:rdA P n B ops σ s o three=some (σ1,k1))(hi:Inv w0 ρ s w)(ha:Kn n (ent ρ σ) a)(hB:∀ k,Aaa k B=true→ρ k = ρB k)(hk:∀ x∈k1,x∈KF) :
 ∃ v,(Fa o (yielded ops.toArray a.tmps)=true→∀ w1,three=true∨GX (keepR ρB KF) w w1→(execOp a.eval o).run P w1 = .ok (.value v) w1)∧(Fa o (yielded ops.toArray a.tmps)=false→v=undef)∧Kn n (ent ρ σ1) (a.put o.dst v):=by
 unfold rdA at h;split at h;rename_i h0;have hwt:=Vwb h0 ha;obtain ⟨h1,_⟩:=Zpd h;refine ⟨undef,fun hq=>(by rw [hwt] at hq;cases hq),fun _=>rfl,?_⟩
 cases hd:o.dst with
 | none=>rw [hd] at h1;injection h1 with h1;injection h1 with h1 _;subst h1;exact ha
 | some t =>
  rw [hd] at h1;unfold empty at h1;dsimp only at h1
  cases hq:Aaa t n with
  | false=>rw [hq] at h1;cases h1
  | true=>rw [hq,Zfh] at h1;injection h1 with h1;injection h1 with h1 _;subst h1;exact Wed (v:=.u) hq ha
 rename_i h0;have hwt:=Vwb h0 ha;obtain ⟨d,op,ty,pos,after,g⟩:=o
 cases three with
 | true =>
  rw [Zfh] at h;split at h;rename_i v hv;obtain ⟨h1,_⟩:=Wvc h;obtain ⟨h2,h3,h4,rfl⟩:=Xbb h1;exact ⟨_,fun _ w1 _=>Wgg hv _ _ _ _ a ha trivial w1 (G.refl w1),fun hq=>(by rw [hwt] at hq;cases hq),Whd h2 ha⟩;cases h
 | false =>
  rw [Zeh] at h;split at h;rename_i v k hv
  cases hq:Aaa k B with
  | false=>rw [hq] at h;cases h
  | true =>
   rw [hq,Zfh] at h;obtain ⟨h1,rfl⟩:=Wvc h;obtain ⟨h2,h3,h4,rfl⟩:=Xbb h1;obtain ⟨A,hA,hr⟩:=Whg (ρ:=ρ) (n:=n) (c:=True) hv;refine ⟨_,fun _ w1 hg=>?_,fun hq=>(by rw [hwt] at hq;cases hq),Whd h2 ha⟩;rcases hg with hg|hg;cases hg;have hh:=hg k (hk k Aqa);rw [← hB k hq] at hh;exact hr ((hi.ok k A hA).heap hh) _ _ _ _ a ha trivial w1 (G.refl w1)
  cases h
 cases h
theorem Wjd(h:efA P cf n ops σ s id o=some (σ',s')):Fre id σ s.m∧Aaa id s.nx=true∧(match wantA ops σ o.guard with
 | some false=>empty n o.dst σ s
 | some true=>(match eA P cf σ s id o.op with
   | some (v,s')=>fin n o.dst v σ s s'
   | none=>none)
 | none=>none)=some (σ',s'):=by
 unfold efA at h
 cases hq:freB id σ s.m&&Aaa id s.nx with
 | false=>rw [hq] at h;cases h
 | true =>
  rw [hq,Zfh] at h
  obtain ⟨hf,hid⟩:=Aea.1 hq
  exact ⟨Usg hf,hid,h⟩
theorem Ubf(h:efA P cf n ops σ s id o=some (σ',s'))(hw:Ws σ s.nx):s.nx≤s'.nx∧Ws σ' s'.nx:=by
 have h:=(Wjd h).2.2;split at h
 cases hd:o.dst with
 | none=>rw [hd] at h;injection h with h;injection h with h1 h2;subst h1 h2;exact ⟨Aba _,hw⟩
 | some t =>
  rw [hd] at h;unfold empty at h;dsimp only at h
  cases hq:Aaa t n with
  | false=>rw [hq] at h;cases h
  | true=>rw [hq,Zfh] at h;injection h with h;injection h with h1 h2;subst h1 h2;exact ⟨Aba _,Qwb (d:=some t) (v:=.u) hw rfl⟩
 split at h;obtain rfl:=Qjc h;obtain ⟨h1,h2,h3,rfl⟩:=Xbb h;exact ⟨h3,Qwb (hw.mono h3) h2⟩;cases h;cases h
theorem Uug{Z:List Ba→Act→Aa→Prop}(hcf:CfOk P w0 cf)(h:efA P cf n ops σ s id o=some (σ',s'))(hi:Inv w0 ρ s w)(hw:Ws σ s.nx)(ha:Kn n (ent ρ σ) a) :
 if Fa o (yielded ops.toArray a.tmps)=true then Eff P Z false o a w (Aft P w0 ρ s id n σ' s') else Aft P w0 ρ s id n σ' s' (a.put o.dst undef) w:=by
 obtain ⟨hf,hid,h⟩:=Wjd h;split at h;rename_i h0;rw [if_neg (by rw [Vwb h0 ha];simp)];obtain ⟨rfl,_,h2⟩:=Qed h ha hw;exact ⟨ρ,fun _ _=>rfl,hi,h2⟩;rename_i h0;rw [if_pos (Vwb h0 ha)];obtain ⟨d,op,ty,pos,after,g⟩:=o;split at h;rename_i v s1 hv;obtain rfl:=Qjc h;obtain ⟨h1,h2,h3,rfl⟩:=Xbb h;exact Wig hcf hv h1 hi hw hf hid ha;cases h;cases h
theorem Wkd{B:Nat}{cl ms:List Nat}:∀ (m:Nat) (L:List Nat) (σ:Sg) (s:Am) (kp:List Nat) (sn:List (List (Nat×AB)×List (Nat×AB))),L.length=m→runD P cf n B ops cl ms m L σ s=some (σ',s',kp,sn)→Ws σ s.nx→s.nx≤s'.nx∧Ws σ' s'.nx
 | 0,L,σ,s,kp,sn,_,h,hw=>by
  unfold runD at h
  cases hq:L.isEmpty with
  | false=>rw [hq] at h;cases h
  | true=>rw [hq,Zfh] at h;injection h with h;injection h with h3 h;injection h with h4 h;subst h3 h4;exact ⟨Aba _,hw⟩
 | m+1,L,σ,s,kp,sn,hL,h,hw=>by
  unfold runD at h;split at h;rename_i r hr;split at h;rename_i o ho;split at h;rename_i σ1 k1 h1;obtain ⟨k',n',h2,hk',hn'⟩:=Zqc h;exact Wkd m _ σ1 s k' n' (by rw [Bma (Cba hr)];omega) h2 (Uaf h1 hw);cases h;cases h
  obtain ⟨j,hj⟩:∃ j,j∈candB cl ms L:=by
   cases hc:candB cl ms L with
   | nil=>rw [hc] at h;cases h
   | cons j r=>exact ⟨j,Aqa⟩
  obtain ⟨k1,n1,h1,_,_⟩:=Qxb h j hj;split at h1;rename_i o ho;split at h1;rename_i σ1 s1 h2;obtain ⟨k',n',h3,hk',hn'⟩:=Zqc h1;obtain ⟨h4,h5⟩:=Ubf h2 hw;obtain ⟨h6,h7⟩:=Wkd m _ σ1 s1 k' n' (by rw [Bma (List.mem_filter.1 hj).1];omega) h3 h5;exact ⟨Ama h4 h6,h7⟩;cases h1;cases h1
theorem Wld{Z:List Ba→Act→Aa→Prop}{B:Nat}{cl ms:List Nat}{ρB:Nat→Rv}{KF:List Nat}{K:Act→Aa→Prop}(hcf:CfOk P w0 cf)(hKF:∀ k∈KF,Aaa k B=true)(hK:∀ ρ' a' w',(∀ k,Aaa k B=true→ρ' k = ρB k)→Inv w0 ρ' s' w'→Kn n (ent ρ' σ') a'→K a' w') :
  ∀ (m:Nat) (L:List Nat) (σ:Sg) (s:Am) (kp:List Nat) (sn:List (List (Nat×AB)×List (Nat×AB))) (ρ:Nat→Rv) (a:Act) (w:Aa),L.length=m→runD P cf n B ops cl ms m L σ s=some (σ',s',kp,sn)→(∀ k∈kp,k∈KF)→(∀ x∈sn,∀ k∈KF,(lk x.1 k).isSome=true∧lk x.1 k=lk x.2 k)→
  Inv w0 ρ s w→Ws σ s.nx→Kn n (ent ρ σ) a→(∀ k,Aaa k B=true→ρ k = ρB k)→B≤s.nx→RT P Z ops.toArray (clOf cl) (wtOf ms) (keepR ρB KF) K m L a w
 | 0,L,σ,s,kp,sn,ρ,a,w,_,h,_,_,hi,hw,ha,hB,_=>by
  unfold runD at h
  cases hq:L.isEmpty with
  | false=>rw [hq] at h;cases h
  | true =>
   rw [hq,Zfh] at h;injection h with h;injection h with h3 h;injection h with h4 h;subst h3 h4;exact ⟨by simpa using hq,hK ρ a w hB hi ha⟩
 | m+1,L,σ,s,kp,sn,ρ,a,w,hL,h,hkp,hsn,hi,hw,ha,hB,hBn=>by
  unfold runD at h;split at h;rename_i r hr;have hrL:=Cba hr;have hrp:=List.find?_some hr;obtain ⟨hav,hrd⟩:=Aea.1 hrp;split at h;rename_i o ho;split at h;rename_i σ1 k1 h1;obtain ⟨k',n',h2,hk',hn'⟩:=Zqc h;obtain ⟨v,q1,q2,q3⟩:=Utg h1 hi ha hB fun x hx=>hkp x (by rw [hk'];exact Bla _ hx);refine .inl ⟨r,hrL,(Yia ms L r).1 hav,(Ydc cl r).1 hrd,o,ho,v,fun hwt w1 hg=>q1 hwt w1 (hg.imp (fun e=>by rw [e];rfl) id),q2,?_⟩;exact Wld hcf hKF hK m _ σ1 s k' n' ρ _ w (by rw [Bma hrL];omega) h2 (fun k hk=>hkp k (by rw [hk'];exact Awa _ hk)) (fun x hx=>hsn x (by rw [hn'];exact Awa _ hx)) hi (Uaf h1 hw) q3 hB hBn;cases h;cases h;rename_i hnone;refine .inr ⟨fun r hr hav hrd=>?_,fun j hj hav=>?_⟩;have:=Cca.1 hnone r hr;rw [(Yia ms L r).2 hav,(Ydc cl r).2 hrd] at this;exact this rfl;obtain ⟨k1,n1,h1,hk1,hn1⟩:=Qxb h j (List.mem_filter.2 ⟨hj,(Yia ms L j).2 hav⟩);split at h1;rename_i o ho;refine ⟨o,ho,?_⟩;split at h1;rename_i σ1 s1 h2;obtain ⟨k',n',h3,hk',hn'⟩:=Zqc h1;obtain ⟨h4,h5⟩:=Ubf h2 hw;have hst:=Uug (Z:=Z) hcf h2 hi hw ha
  have agr:∀ ρ1,Agr1 s.nx (B+j) ρ ρ1→∀ k,Aaa k B=true→ρ1 k = ρ k:=fun ρ1 hA k hk=>by
   refine hA k ?_;have:=Bka hk;rw [Xsa hk hBn,Vta O];rfl
  have hnext:∀ a' w',Aft P w0 ρ s (B+j) n σ1 s1 a' w'→((clOf cl j == 1)=true→GX (keepR ρB KF) w w')∧RT P Z ops.toArray (clOf cl) (wtOf ms) (keepR ρB KF) K m (L.erase j) a' w':=by
   rintro a' w' ⟨ρ1,hA,hI,hkn⟩;have hA':=agr ρ1 hA;refine ⟨fun hc k hk=>?_,?_⟩;have hc1:Aja (clOf cl j) 1=true:=by rw [show clOf cl j=1 by simpa using hc];rfl
   have:=hsn (s.m,s1.m) (hn1 _ (by rw [hn',hc1];exact Bla _ Aqa)) k hk;obtain ⟨hs1,hs2⟩:=this;obtain ⟨A,hA1⟩:=Option.isSome_iff_exists.1 hs1;dsimp only at hA1 hs2;rw [hA1] at hs2;have e1:=hA' k (hKF k hk);have hcells:A.l.map (v0 ρ1)=A.l.map (v0 ρ):=Qic hA (Wfd (hi.wf k A hA1).2 ((Wjd h2).1.m k A hA1).2);have:=(hi.ok k A hA1).same (hI.ok k A hs2.symm) e1 hcells;rw [hB k (hKF k hk)] at this;exact this;exact Wld hcf hKF hK m _ σ1 s1 k' n' ρ1 a' w' (by rw [Bma hj];omega) h3 (fun k hk=>hkp k (hk1 k (by rw [hk'];exact Awa _ hk))) (fun x hx=>hsn x (hn1 x (by rw [hn'];exact Awa _ hx))) hI h5 hkn (fun k hk=>(hA' k hk).trans (hB k hk)) (Ama hBn h4)
  split;rename_i hwt;rw [if_pos hwt] at hst;exact Ytg hst hnext;rename_i hwt;rw [if_neg hwt] at hst;exact (hnext _ _ hst).2;cases h1;cases h1
end
inductive Ex where
  | n|r|x (id:Nat)
def ev(P:Da)(cf:Nat→List AV→Am→Option (AV×Am))(n:Nat):Nat→Code→Sg→Am→Option (Ex×Sg×Am)
 | 0,_,_,_=>none
 | f+1,c,σ,s=>match c with
  | .skip=>some (.n,σ,s)
  | .ret=>some (.r,σ,s)
  | .exit id=>some (.x id,σ,s)
  | .region _ ops draw=>(bif draw then runG P cf n ops.toList σ s else runT P cf n ops.toList ops.toList σ s).map fun x=>(.n,x.1,x.2)
  | .seq a b=>match ev P cf n f a σ s with
   | some (.n,σ',s')=>ev P cf n f b σ' s'
   | r=>r
  | .cond x p q=>match a0 (oA σ x) with
   | some (.b b)=>ev P cf n f (bif b then p else q) σ s
   | _=>none
  | .block id c=>match ev P cf n f c σ s with
   | some (.x i,σ',s')=>some (bif Aja i id then .n else .x i,σ',s')
   | r=>r
  | .loop c=>match ev P cf n f c σ s with
   | some (.n,σ',s')=>ev P cf n f (.loop c) σ' s'
   | r=>r
  | _=>none
def argS:Nat→List AV→Sg
 | _,[]=>[]
 | k,v::vs=>(k,v)::argS (k+1) vs
def resA(P:Da)(σ:Sg)(m:List (Nat×AB)):ResultVar→Option A1
 | .tmp t=>match lk σ t with
  | some (.v a)=>some a
  | _=>none
 | .cell t T=>(lA P σ m (.load T (.tmp t))).map (·.1)
def retI(P:Da)(rs:List ResultVar):Ex×Sg×Am→Option (AV×Am)
 | (.r,σ,s)=>match rs with
  | []=>some (.t [],s)
  | [r]=>(resA P σ s.m r).map fun a=>(.v a,s)
  | rs=>(allO (resA P σ s.m) rs).map fun l=>(.t l,s)
 | (.n,σ,s)=>match rs with
  | []=>some (.t [],s)
  | _=>none
 | _=>none
def callF(P:Da):Nat→Nat→List AV→Am→Option (AV×Am)
 | 0,_,_,_=>none
 | f+1,g,vs,s=>match P.funcs[g]? with
  | some fn=>match fn.body with
   | some c=>bif vs.all (okD 1 (some 0)) then (match ev P (callF P f) (vs.length+(fn.ntmps-vs.length)) 3000 c (argS 0 vs) s with
    | some r=>retI P fn.results.toList r
    | none=>none) else none
   | none=>none
  | none=>none
def Out(N:Act→Aa→Prop)(X:List (Nat×(Act→Aa→Prop)))(T:Act→Aa→Prop)(e:Ex)(a:Act)(w:Aa):Prop:=match e with
 | .n=>N a w
 | .r=>T a w
 | .x id=>∃ k,X.lookup id=some k∧k a w
section
variable {P:Da} {cf:Nat→List AV→Am→Option (AV×Am)} {w0 w:Aa} {ρ:Nat→Rv} {s s':Am} {σ σ':Sg} {id n:Nat} {a:Act}
theorem Inv.drew(hi:Inv w0 ρ s w):Inv w0 ρ s w.drew:=⟨hi.g.trans (G.drew _),fun k B hk=>(hi.ok k B hk).heap rfl,hi.wf,hi.ne⟩
theorem Vae{ops:List Oper}(h:runG P cf n ops σ s=some (σ',s')):okT ops (ops.map clT) (masksA ops [])=true∧∃ kp sn,runD P cf n s.nx ops (ops.map clT) (masksA ops []) ops.length (List.range ops.length) σ ⟨s.nx+ops.length,s.m⟩=some (σ',s',kp,sn)∧(∀ k∈kp,Aaa k s.nx=true)∧∀ x∈sn,∀ k∈kp,(lk x.1 k).isSome=true∧lk x.1 k=lk x.2 k:=by
 unfold runG at h
 cases hq:okT ops (ops.map clT) (masksA ops []) with
 | false=>rw [hq] at h;cases h
 | true =>
  rw [hq,Zfh] at h;split at h;rename_i σ1 s1 kp sn h1
  cases hc:kp.all (fun k=>Aaa k s.nx)&&sn.all (fun x=>kp.all fun k=>(lk x.1 k).isSome&&decide (lk x.1 k=lk x.2 k)) with
  | false=>rw [hc] at h;cases h
  | true =>
   rw [hc,Zfh] at h;injection h with h;injection h with h2 h3;subst h2 h3;obtain ⟨h4,h5⟩:=Aea.1 hc;refine ⟨rfl,kp,sn,h1,fun k hk=>Aia.1 h4 k hk,fun x hx k hk=>?_⟩;have:=Aia.1 (Aia.1 h5 x hx) k hk;simpa using this
  cases h
theorem Xgb:∀ (f:Nat) (c:Code) (σ:Sg) (s:Am) (e:Ex) (σ':Sg) (s':Am),ev P cf n f c σ s=some (e,σ',s')→Ws σ s.nx→s.nx≤s'.nx∧Ws σ' s'.nx
 | 0,_,_,_,_,_,_,h,_=>by cases h
 | f+1,c,σ,s,e,σ',s',h,hw=>by
  unfold ev at h;split at h;injection h with h;injection h with _ h;injection h with h1 h2;subst h1 h2;exact ⟨Aba _,hw⟩;injection h with h;injection h with _ h;injection h with h1 h2;subst h1 h2;exact ⟨Aba _,hw⟩;injection h with h;injection h with _ h;injection h with h1 h2;subst h1 h2;exact ⟨Aba _,hw⟩;rename_i draw;obtain ⟨⟨x1,x2⟩,h1,h2⟩:=Aka.1 h;injection h2 with _ h2;injection h2 with h3 h4;subst h3 h4
  cases draw with
  | true =>
   rw [Zfh] at h1;obtain ⟨_,kp,sn,h5,_⟩:=Vae h1;obtain ⟨h6,h7⟩:=Wkd _ _ _ _ kp sn Os h5 (hw.mono (Bfa _ _));exact ⟨Ama (Bfa _ _) h6,h7⟩
  | false=>exact Wxe _ _ _ h1 hw
  split at h;rename_i σ1 s1 h1;obtain ⟨h2,h3⟩:=Xgb f _ _ _ _ _ _ h1 hw;obtain ⟨h4,h5⟩:=Xgb f _ _ _ _ _ _ h h3;exact ⟨Ama h2 h4,h5⟩;exact Xgb f _ _ _ _ _ _ h hw;split at h;exact Xgb f _ _ _ _ _ _ h hw;cases h;split at h;rename_i i σ1 s1 h1;injection h with h;injection h with _ h;injection h with h2 h3;subst h2 h3;exact Xgb f _ _ _ _ _ _ h1 hw;exact Xgb f _ _ _ _ _ _ h hw;split at h;rename_i σ1 s1 h1;obtain ⟨h2,h3⟩:=Xgb f _ _ _ _ _ _ h1 hw;obtain ⟨h4,h5⟩:=Xgb f _ _ _ _ _ _ h h3;exact ⟨Ama h2 h4,h5⟩;exact Xgb f _ _ _ _ _ _ h hw;cases h
theorem ev_ok(hcf:CfOk P w0 cf)(hm:P.follows .mixedOrders=true)(F:Nat):∀ (f:Nat),f≤F→∀ (c:Code) (σ:Sg) (s:Am) (e:Ex) (σ':Sg) (s':Am) (ρ:Nat→Rv) (w:Aa) (N:Act→Aa→Prop) (X:List (Nat×(Act→Aa→Prop))) (T:Act→Aa→Prop),ev P cf n f c σ s=some (e,σ',s')→Inv w0 ρ s w→Ws σ s.nx→
 (∀ ρ' a' w',(∀ k,Aaa k s.nx=true→ρ' k = ρ k)→Inv w0 ρ' s' w'→Kn n (ent ρ' σ') a'→Out N X T e a' w')→SC P n c N X T (ent ρ σ) w:=by
 induction F with
 | zero =>
  intro f hf c σ s e σ' s' ρ w N X T h;obtain rfl:f=0:=by omega
  cases h
 | succ F ih =>
  intro f hf c σ s e σ' s' ρ w N X T h hi hw hK
  cases f with
  | zero=>cases h
  | succ f =>
  have ihA:=ih;have ih:=ih f O;have chain:∀ {σ1:Sg} {s1:Am} {e1:Ex} {c1:Code} {ρ1 ρ2:Nat→Rv},ev P cf n f c1 σ s=some (e1,σ1,s1)→(∀ k,Aaa k s.nx=true→ρ1 k = ρ k)→(∀ k,Aaa k s1.nx=true→ρ2 k = ρ1 k)→∀ k,Aaa k s.nx=true→ρ2 k = ρ k:=fun h1 q1 q2 k hk=>(q2 k (Xsa hk (Xgb f _ _ _ _ _ _ h1 hw).1)).trans (q1 k hk);have h0:=h;unfold ev at h;split at h;injection h with h;injection h with h2 h;injection h with h3 h4;subst h2 h3 h4;exact Yu fun a ha=>hK ρ a w (fun _ _=>rfl) hi ha;injection h with h;injection h with h2 h;injection h with h3 h4;subst h2 h3 h4;exact We fun a ha=>hK ρ a w (fun _ _=>rfl) hi ha;injection h with h;injection h with h2 h;injection h with h3 h4;subst h2 h3 h4;refine .mk fun a ha=>wp_exit ?_;obtain ⟨k,h5,h6⟩:=hK ρ a w (fun _ _=>rfl) hi ha;show match X.lookup _ with|some k=>k a w|none=>False
  rw [h5];exact h6;rename_i id ops draw;obtain ⟨⟨x1,x2⟩,h1,h2⟩:=Aka.1 h;injection h2 with h5 h2;injection h2 with h3 h4;subst h3 h4 h5
  cases draw with
  | true =>
   rw [Zfh] at h1;obtain ⟨q0,kp,sn,q1,q2,q3⟩:=Vae h1;have e:ops=ops.toList.toArray:=by simp
   rw [e];refine Yx (keepR ρ kp) _ _ hm q0 _ J (.mk fun a ha=>?_);exact Wld hcf q2 (fun ρ' a' w' hA hI hk=>hK ρ' a' w' hA hI hk) _ _ σ _ kp sn ρ a w.drew Os q1 (fun _ h=>h) q3 (hi.drew.bump (Bfa _ _)) (hw.mono (Bfa _ _)) ha (fun _ _=>rfl) (Bfa _ _)
  | false =>
   rw [Zeh] at h1;refine .mk fun a ha=>?_;refine Qhf (cl:=fun _=>2) (W0:=w) ?_;have:=Wye (ops:=ops.toList) (Z:=NoP) (W0:=w) hcf ops.toList 0 σ s ρ a w (fun a w=>(Qof N X T fun _ _=>False) .normal a w) Os h1 hi hw ha fun ρ' a' w' hA hI hk=>hK ρ' a' w' hA hI hk;rw [List.range_eq_range'];simpa using this
  rename_i x y;split at h;rename_i σ1 s1 h1;refine Jve fun K hKy=>ih _ σ s .n σ1 s1 ρ w K X T h1 hi hw fun ρ1 a1 w1 hA1 hI1 hk1=>?_;exact hKy (ent ρ1 σ1) w1 (ih _ σ1 s1 e σ' s' ρ1 w1 N X T h hI1 (Xgb f _ _ _ _ _ _ h1 hw).2 fun ρ2 a2 w2 hA2 hI2 hk2=>hK ρ2 a2 w2 (chain h1 hA1 hA2) hI2 hk2) a1 hk1;rename_i hne;refine Jve fun K hKy=>ih _ σ s e σ' s' ρ w K X T h hi hw fun ρ1 a1 w1 hA1 hI1 hk1=>?_;have:=hK ρ1 a1 w1 hA1 hI1 hk1
  cases e with
  | n=>exact absurd h (hne _ _)
  | _=>exact this
  split at h;rename_i b hb
  cases b with
  | true=>exact Qlf (oC hb) (ih _ σ s e σ' s' ρ w N X T h hi hw hK)
  | false=>exact Jwe (oC hb) (ih _ σ s e σ' s' ρ w N X T h hi hw hK)
  cases h;rename_i id c;split at h;rename_i i σ1 s1 h1;injection h with h;injection h with h2 h;injection h with h3 h4;subst h2 h3 h4;refine Yw (ih _ σ s _ σ1 s1 ρ w N _ T h1 hi hw fun ρ1 a1 w1 hA1 hI1 hk1=>?_);have:=hK ρ1 a1 w1 hA1 hI1 hk1;by_cases hq:i=id;subst hq;rw [Nat.beq_refl,Zfh] at this;exact ⟨N,by simp [List.lookup],this⟩;rw [Vta hq,Zeh] at this;obtain ⟨k,q1,q2⟩:=this;refine ⟨k,?_,q2⟩;rw [List.lookup_cons];have:(i == id)=false:=by simpa using hq
  rw [this];exact q1;rename_i hne;refine Yw (ih _ σ s e σ' s' ρ w N _ T h hi hw fun ρ1 a1 w1 hA1 hI1 hk1=>?_);have:=hK ρ1 a1 w1 hA1 hI1 hk1
  cases e with
  | x i=>exact absurd h (hne _ _ _)
  | _=>exact this
  rename_i c;refine Vlb (α:=(Nat×Sg×Am×(Nat→Rv))) (fun x w=>Inv w0 x.2.2.2 x.2.2.1 w∧Ws x.2.1 x.2.2.1.nx∧ev P cf n x.1 (.loop c) x.2.1 x.2.2.1=some (e,σ',s')∧(∀ k,Aaa k s.nx=true→x.2.2.2 k = ρ k)∧s.nx≤x.2.2.1.nx∧x.1≤F+1) (fun x=>ent x.2.2.2 x.2.1) (fun x=>x.1) (f+1,σ,s,ρ) ⟨hi,hw,h0,fun _ _=>rfl,Aba _,hf⟩ (fun _ _ _ h=>h) ?_;rintro ⟨g,σ1,s1,ρ1⟩ w1 ⟨hi1,hw1,he1,hA1,hn1,hg⟩;dsimp only at hi1 hw1 he1 hA1 hn1 hg ⊢
  cases g with
  | zero=>cases he1
  | succ g =>
   unfold ev at he1;dsimp only at he1;split at he1;rename_i σ2 s2 h2;obtain ⟨h3,h4⟩:=Xgb g _ _ _ _ _ _ h2 hw1;refine ihA g O _ σ1 s1 .n σ2 s2 ρ1 w1 _ X T h2 hi1 hw1 fun ρ2 a2 w2 hA2 hI2 hk2=>?_;exact ⟨(g,σ2,s2,ρ2),hk2,⟨hI2,h4,he1,fun k hk=>(hA2 k (Xsa hk hn1)).trans (hA1 k hk),Ama hn1 h3,O⟩,Nat.lt_succ_self _⟩;rename_i hne;refine ihA g O _ σ1 s1 e σ' s' ρ1 w1 _ X T he1 hi1 hw1 fun ρ2 a2 w2 hA2 hI2 hk2=>?_;have:=hK ρ2 a2 w2 (fun k hk=>(hA2 k (Xsa hk hn1)).trans (hA1 k hk)) hI2 hk2
   cases e with
   | n=>exact absurd he1 (hne _ _)
   | _=>exact this
  cases h
theorem Ucf{r:ResultVar}{v:A1}(h:resA P σ s.m r=some v)(hi:Inv w0 ρ s w){rs:List ResultVar}{vs:List Ea}(k:EvR P n (ent ρ σ) w rs vs):EvR P n (ent ρ σ) w (r::rs) (v1 ρ v::vs):=by
 cases r with
 | tmp t =>
  have h:(match lk σ t with|some (.v a)=>some a|_=>none)=some v:=h;split at h;rename_i a hl;injection h with h;subst h;exact Unb (by rw [Jba,hl];rfl) k;cases h
 | cell t T =>
  have h:(lA P σ s.m (.load T (.tmp t))).map (·.1)=some v:=h;obtain ⟨⟨u,k0⟩,h1,h2⟩:=Aka.1 h;dsimp only at h2;subst h2;unfold lA at h1;dsimp only at h1;split at h1;rename_i j o hp;have hx:=Weg (ρ:=ρ) (Wfg hp);split at h1;rename_i B hB;have hr:=(hi.ok j B hB).row
  cases ht:Wv P T with
  | true =>
   rw [ht,Zfh] at h1;obtain ⟨a,h3,h4⟩:=Aka.1 h1;injection h4 with h4 h5;subst h4 h5;refine Xvb hx ht ?_ k;have:=hr _ (v0 ρ a) (by rw [Bna,h3];rfl);rwa [Bra] at this
  | false =>
   rw [ht,Zeh] at h1;split at h1;rename_i z h3;split at h1;rename_i hz;injection h1 with h1;injection h1 with h4 h5;subst h4 h5;exact Yoa hx h3 (by rw [Aca,Axa,List.length_drop];omega) (Wte hr _ _) k;cases h1;cases h1
  cases h1;cases h1
theorem Vbe(hi:Inv w0 ρ s w):∀ {rs:List ResultVar} {l:List A1},allO (resA P σ s.m) rs=some l→EvR P n (ent ρ σ) w rs (l.map (v1 ρ))∧l.length=rs.length
 | [],l,h=>by injection h with h;subst h;exact ⟨Uc,rfl⟩
 | r::rs,l,h=>by
  unfold allO at h;split at h;rename_i y l' h1 h2;injection h with h;subst h;obtain ⟨q1,q2⟩:=Vbe hi h2;exact ⟨Ucf h1 hi q1,by rw [Apa,Apa,q2]⟩;cases h
theorem Qgd(ρ:Nat→Rv):∀ (k:Nat) (vs:List AV),vs.all (okD 1 (some 0))=true→ent ρ (argS k vs)=argsK k (vs.map (vA ρ))
 | _,[],_=>rfl
 | k,v::vs,h=>by
  rw [List.all_cons,Aga] at h;have ih:=Qgd ρ (k+1) vs h.2;unfold argS;rw [Asa];unfold argsK;rw [← ih];unfold ent;rw [Asa]
  cases v with
  | u=>cases h.1
  | _=>rfl
theorem Vce{p:Nat→Bool}:∀ (vs:List AV) (k t:Nat) (x:AV),(∀ v∈vs,usV p v=true)→lk (argS k vs) t=some x→usV p x=true
 | [],_,_,_,_,h=>by cases h
 | v::vs,k,t,x,hv,h=>by
  unfold argS lk at h
  cases hb:Aja k t with
  | true=>rw [hb] at h;injection h with h;subst h;exact hv _ Aqa
  | false=>rw [hb] at h;exact Vce vs (k+1) t x (fun y hy=>hv y (Bda _ hy)) h
theorem Qhd(hm:P.follows .mixedOrders=true):∀ (f:Nat),CfOk P w0 (callF P f)
 | 0=>fun g vs s v s' h=>by cases h
 | f+1=>fun g vs s v s' h ρ w hi hvs=>by
  unfold callF at h;split at h;rename_i fn hfn;split at h;rename_i c hc
  cases hq:vs.all (okD 1 (some 0)) with
  | false=>rw [hq] at h;cases h
  | true =>
   rw [hq,Zfh] at h;split at h;rename_i r hr;obtain ⟨e,σ1,s1⟩:=r
   have hs1:s1=s':=by
    unfold retI at h;split at h;rename_i σ2 s2 heq;injection heq with _ heq;injection heq with h3 h4;subst h3 h4;split at h;injection h with h;injection h with _ h;obtain ⟨_,_,h4⟩:=Aka.1 h;injection h4 with _ h4;obtain ⟨_,_,h4⟩:=Aka.1 h;injection h4 with _ h4;rename_i σ2 s2 heq;injection heq with _ heq;injection heq with h3 h4;subst h3 h4;split at h;injection h with h;injection h with _ h;cases h;cases h
   subst hs1;refine Ul hfn hc J (argsK 0 (vs.map (vA ρ))) (fun _ _ _ h=>h) ?_;rw [Aca,← Qgd ρ 0 vs hq];refine ev_ok (Qhd hm f) hm 3000 3000 (Aba _) c (argS 0 vs) s e σ1 s1 ρ w _ _ _ hr hi (fun t x hl=>Vce vs 0 t x hvs hl) fun ρ' a' w' hA hI hk=>?_;have post:∀ u,u=vA ρ' v→∃ ρ',(∀ k,Aaa k s.nx=true→ρ' k = ρ k)∧Inv w0 ρ' s1 w'∧u=vA ρ' v:=fun u hu=>⟨ρ',hA,hI,hu⟩;have hres:fn.results=fn.results.toList.toArray:=by simp
   unfold retI at h;split at h;rename_i σ2 s2 heq;injection heq with h2 heq;injection heq with h3 h4;subst h2 h3 h4;split at h;rename_i hz;injection h with h;injection h with h _;subst h;dsimp only [Out];refine Jxe (by rw [hres,hz]) ?_ a' hk;exact post _ rfl;rename_i r hz;obtain ⟨u,h3,h4⟩:=Aka.1 h;injection h4 with h4 _;subst h4;dsimp only [Out];refine Yya (by rw [hres,hz]) (Ucf h3 hI Uc) ?_ a' hk;exact post _ rfl;rename_i rs hn1 hn2;obtain ⟨l,h3,h4⟩:=Aka.1 h;injection h4 with h4 _;subst h4;obtain ⟨q1,q2⟩:=Vbe (n:=vs.length+(fn.ntmps-vs.length)) hI h3;dsimp only [Out]
   refine Wza hres (by
    match fn.results.toList,hn1,hn2 with
    | [],hn1,_=>exact absurd rfl hn1
    | [r],_,hn2=>exact absurd rfl (hn2 r)
    | _::_::_,_,_=>rfl) q1 (by rw [Aca,q2]) ?_ a' hk
   exact post _ rfl;rename_i σ2 s2 heq;injection heq with h2 heq;injection heq with h3 h4;subst h2 h3 h4;split at h;rename_i hz;injection h with h;injection h with h _;subst h;dsimp only [Out];refine Ypa (by rw [hres,hz]) ?_ a' hk;exact post _ rfl;cases h;cases h;cases h
  cases h;cases h
end
def Qid(g:List A0→Option Nd):Nat→List A0→Option (List Nd)
 | 0,l=>bif l.isEmpty then some [] else none
 | q+1,l=>match g (l.take 9),Qid g q (l.drop 9) with
  | some t,some r=>some (t::r)
  | _,_=>none
def treeA(m:List (Nat×AB)):Nat→List A0→Option Nd
 | f+1,[.i .i64 k,.s x,.i .i64 n,.i .i64 p,ks,.i .i64 tk,.s tn,.i .i64 r,.i .i64 u]=>(match ks with
  | .e=>some []
  | .r j q=>match lk m j with
   | some ⟨e,some (z,q'),c⟩=>if e=26∧z=9∧q'=q then Qid (treeA m f) q c else none
   | _=>none
  | _=>none).map fun l=>.mk k x n p l ⟨tk,tn⟩ r u
 | _,_=>none
section
variable {w0 w:Aa} {ρ:Nat→Rv} {s:Am}
def Dn(w0 w:Aa)(k:Nat):Prop:=w0.heap.size≤k∧NdR w k
theorem Qjd{g:List A0→Option Nd}{D:Nat→Prop}(hg:∀ l t,g l=some t→∃ v,l.map (v0 ρ)=ndCells t v∧Kd w D t.kids v):∀ (q:Nat) (l:List A0) (ts:List Nd),Qid g q l=some ts→KRow w D ts (l.map (v0 ρ))∧ts.length=q
 | 0,l,ts,h=>by
  unfold Qid at h
  cases l with
  | nil=>injection h with h;subst h;exact ⟨Wkb,rfl⟩
  | cons=>cases h
 | q+1,l,ts,h=>by
  unfold Qid at h;split at h;rename_i t r h1 h2;injection h with h;subst h;obtain ⟨v,h3,h4⟩:=hg _ _ h1;obtain ⟨h5,h6⟩:=Qjd hg q _ r h2;refine ⟨?_,by rw [Apa,h6]⟩;have:=Qe h4 h5;rw [← h3,← Afa,List.take_append_drop] at this;exact this;cases h
theorem Qkd(hi:Inv w0 ρ s w):∀ (f:Nat) (l:List A0) (t:Nd),treeA s.m f l=some t→∃ v,l.map (v0 ρ)=ndCells t v∧Kd w (Dn w0 w) t.kids v
 | 0,l,t,h=>by cases h
 | f+1,l,t,h=>by
  unfold treeA at h;split at h;rename_i hf;injection hf with hf;subst hf;obtain ⟨ks,h1,rfl⟩:=Aka.1 h;refine ⟨_,rfl,?_⟩;show Kd w _ ks _;split at h1;injection h1 with h1;subst h1;exact Vsc _ _;split at h1;rename_i e z q' c hl;split at h1;rename_i hc;obtain ⟨rfl,rfl,rfl⟩:=hc;obtain ⟨h2,h3⟩:=Qjd (Qkd hi f) _ _ _ h1;have hA:=hi.ok _ _ hl;have hO:=hA.2.1;refine ⟨some ⟨(ρ _).b,0,none⟩,(ρ _).c,by rw [h3];rfl,?_,fun hpos=>⟨_,0,rfl,⟨hA.1,?_⟩,_,hA.row,h2⟩⟩;rcases hO.2 with ⟨q1,_⟩|⟨g,cap,cur,q1,_,_,q2,_⟩;cases q1;injection q1 with _ _ q1;rw [h3,q1];exact q2;rcases hO.2 with ⟨q1,_⟩|⟨g,cap,cur,q1,_,q3,_⟩;cases q1;injection q1 with q1 _ _;injection q1 with q1;injection q1 with q1 _ _;rw [q1];exact ⟨_,_,q3⟩;cases h1;cases h1;cases h1;cases h
end
noncomputable def runP(s:List UInt8):Option Nd:=match callF PP 100 16 [.v (.c (.s s))] ⟨0,[]⟩ with
 | some (.t [.g l,.c (.i .i64 a),.c (.i .i64 b)],s')=>if a=0∧b=0 then treeA s'.m 60 l else none
 | _=>none
theorem Yug{s:List UInt8}{T:Nd}(h:runP s=some T)(w:Aa):Ret PP 16 #[Str s] w fun r w'=>(∃ u,r = .tuple #[u,.int .i64 0,.int .i64 0]∧RetN T w.heap.size u w')∧G w w':=by
 unfold runP at h;split at h;rename_i l a b s' hc;split at h;rename_i hz;obtain ⟨rfl,rfl⟩:=hz;have hi:Inv w (fun _=>⟨0,0,none⟩) ⟨0,[]⟩ w:=⟨G.refl w,fun k B hk=>(by cases hk),fun k B hk=>(by cases hk),fun k k' B B' hk=>(by cases hk)⟩;refine (Qhd mix 100 _ _ _ _ _ hc _ w hi fun x hx=>by rw [Bea.1 hx];rfl).mono fun r w' hr=>?_;obtain ⟨ρ',_,hI,rfl⟩:=hr;obtain ⟨v,h1,h2⟩:=Qkd hI _ _ _ h;refine ⟨⟨ndV T v,?_,Xld h2⟩,hI.g⟩;show Value.tuple #[Value.agg (l.map (v0 ρ')).toArray,_,_]=_;rw [h1];rfl;cases h;cases h
theorem Veb{s:List UInt8}{T:Nd}(hp:runP s=some T)(hc:count T≤1000000)(w:Aa)(hL:LaidW w.heap.size w):Ret PP 26 #[Str s] w fun r w'=>(∃ u,r = .tuple #[u,.int .i64 (refCheck T).2.1,.int .i64 (refCheck T).2.2]∧RetN (refCheck T).1 w.heap.size u w')∧G w w':=by
 have g:=G.refl w;refine Ul (m:=23) Tryz.func26 J J [(0,True,_)] (Zb J (Zq _)) ?_;refine Zk (Zn (Yt J Zp J ?_));intro b2 w2 N2;have l2:=N2.ge g;have nat2:=N2.at_;have g:=g.trans N2.g;have E:=(Qs _).new N2;refine Xf J (Xf J (Ze (kq (Zk (Zn (Zu J (Xe J (Zy Zyd Wz (aqc J aq0) J) (Yug hp _) ?_)))))));rintro v10 w10 ⟨⟨u10,rfl,p10,c10,rfl,hk10⟩,g10⟩;refine ⟨fun _=>g10,?_⟩;have g:=g.trans g10;replace E:=E.grow g10;have hk10:Kd w10 (fun k=>k<w10.heap.size) T.kids (.slice p10 T.kids.length c10):=(Kd.mono hk10 fun k _ h=>h);refine Zu J (Ju J J (Ju J J (Ju J J (Yt J Zp J ?_))));intro b5 w5 N5;have l5:=N5.ge g;have nat5:=N5.at_;have g:=g.trans N5.g;have hk10:=hk10.grow (N5.g);replace E:=E.new N5;refine Zra Yk J J J E.g0 ?_;intro wS1 hgS1 _ BS;replace E:=E.s0 hgS1 BS;have g:=Yq g hgS1 O;have hk10:=hk10.keep hgS1 (fun k hk _ he=>by injection he with he;have hk:k<w10.heap.size:=hk;omega);refine Xf J (Xf J (Ze (kq (Zk (Zk (Zn (Zu J (Zdf J J (Ze (kq (Um J (fun h1=>?_) (fun h1=>?_))))))))))))
 ·exact absurd h1 Od
  done
 (try simp only [bsimp] at h1);refine Yu (kq (Zk (Zn (Va Zf J J E.g0.row (Xe J (Zy Qia Wz (aqc J aq0) J) (Xmc T _ _ _ [b2,b5] hk10 hc ((hL.grow g).top) (E.ltm Ob) g.size) ?_)))));rintro v19 w19 ⟨⟨p19,c19,rfl,q19,k19⟩,g19⟩;refine ⟨fun _=>g19,?_⟩;have g:=g.trans g19;replace E:=E.grow g19;refine Ju J J (Ju J J (Ju J J (Zra Yk J J J E.g1 ?_)));intro wS2 hgS2 _ BS;replace E:=E.s1 hgS2 BS;have g:=Yq g hgS2 O;have k19:=k19.keep hgS2 Oi;refine Xf J (Xf J (Ze (kq (We (Wza (rs:=[.cell 2 26,.tmp 3,.tmp 4]) (vs:=[_,_,_]) J J (Yoa J Zf J (E.g1.row) (Unb J (Unb J (Uc)))) J ?_)))));exact ⟨⟨_,rfl,Xh rfl (k19.kdN q19)⟩,g⟩
def smp6A:List UInt8:=List.append [118,97,114,32,103,32,105,110,116] (10::[102,117,110,99,32,109,97,105,110,40,41,32,123,32,120,32,58,61,32,103,59,32,102,117,110,99,40,41,32,123,32,120,32,61,32,120,32,43,32,49,32,125,40,41,32,125])
def smp6B:List UInt8:=[102,117,110,99,32,109,97,105,110,40,41,32,123,32,120,32,61,32,49,32,125]
def smp6C:List UInt8:=[102,117,110,99,32,109,97,105,110,40,41,32,123,32,120,32,58,61,32,110,105,108,32,125]
def smp6D:List UInt8:=[102,117,110,99,32,109,97,105,110,40,41,32,123,32,120,32,58,61,32,49,59,32,120,32,58,61,32,50,32,125]
def smp6E:List UInt8:=[102,117,110,99,32,102,40,41,32,123,32,125]
def useX(t:Nd):Bool:=(((decide (t.kind=27)&&decide (t.text=[120]))&&decide (t.ref=1))&&decide (t.num=0))&&decide (t.ty.kind=1)
def upS(l:List Nd):Int:=(l.map fun t=>bif useX t then t.up else 0).sum
def good(a e:Int)(T:Nd):Bool:=decide (count T≤1000000)&&(decide ((refCheck T).2.1=a)&&decide ((refCheck T).2.2=e))
def Wjg(T:Nd):Bool:=(decide (count T≤1000000)&&decide ((refCheck T).2.2=0))&&((decide (count (refCheck T).1≤1000)&&decide ((listN (refCheck T).1).length≤1000))&&(((listN (refCheck T).1).all fun t=>decide (0≤t.up)&&decide (t.up≤100))&&decide (upS (listN (refCheck T).1)=2)))
theorem Qkc{q:Nd→Bool}{x:Option Nd}(h:x.any q=true):∃ T,x=some T∧q T=true:=by
 cases x with
 | none=>cases h
 | some T=>exact ⟨T,rfl,h⟩
theorem Wwc{a e:Int}{T:Nd}(h:good a e T=true):count T≤1000000∧(refCheck T).2.1=a∧(refCheck T).2.2=e:=by
 unfold good at h;simpa using h
theorem kA:(runP smp6A).any Wjg=true:=by decide +kernel
theorem kB:(runP smp6B).any (good 14 5)=true:=by decide +kernel
theorem kC:(runP smp6C).any (good 19 7)=true:=by decide +kernel
theorem kD:(runP smp6D).any (good 22 6)=true:=by decide +kernel
theorem kE:(runP smp6E).any (good 0 5)=true:=by decide +kernel
theorem Qld{l:List Nd}{i:Nat}(h:i<l.length):upS (l.take (i+1))=upS (l.take i)+(bif useX l[i] then l[i].up else 0):=by
 unfold upS;rw [Aya h,Afa,List.sum_append];simp
theorem Udf:∀ {l:List Nd},(∀ t∈l,0≤t.up∧t.up≤100)→0≤upS l∧upS l≤100*(l.length:Int)
 | [],_=>⟨Int.le_refl _,Int.le_refl _⟩
 | t::l,h=>by
  have h1:=Udf (l:=l) fun u hu=>h u (Bda _ hu);have h2:=h t Aqa;have e:upS (t::l)=(bif useX t then t.up else 0)+upS l:=by unfold upS;simp
  rw [e,Apa];cases useX t;rw [Zeh];omega;rw [Zfh];omega
theorem Jee(w:Aa)(hL:LaidW w.heap.size w):Ret PP 10 #[] w fun r w'=>r = .bool true∧G w w':=by
 obtain ⟨TA,pA,gA⟩:=Qkc kA;obtain ⟨TB,pB,gB⟩:=Qkc kB;obtain ⟨TC,pC,gC⟩:=Qkc kC;obtain ⟨TD,pD,gD⟩:=Qkc kD;obtain ⟨TE,pE,gE⟩:=Qkc kE;obtain ⟨qB,rB⟩:=Wwc gB;obtain ⟨qC,rC⟩:=Wwc gC;obtain ⟨qD,rD⟩:=Wwc gD;obtain ⟨qE,rE⟩:=Wwc gE;unfold Wjg at gA;simp only [Aga,Zah] at gA;obtain ⟨⟨qA,rA⟩,⟨hcA,hlA⟩,hup,huA⟩:=gA;obtain ⟨A,hA⟩:∃ A,A=(refCheck TA).1:=⟨_,rfl⟩;rw [← hA] at hcA hlA hup huA
 have hup:∀ t∈listN A,0≤t.up∧t.up≤100:=fun t ht=>by
  have:=Aia.1 hup t ht;simpa using this
 have g:=G.refl w;refine Ul (m:=134) Tryz.func10 J J [] (Zq _) ?_;refine Zk (Zn (Xf J (Ze (kq (Zk (Zn (Xe J (Zy Yba Wz (aqc J aq0) J) (Veb pA qA _ ((hL.grow g).top)) ?_)))))));rintro v20 w20 ⟨⟨u20,rfl,p20,c20,rfl,k20⟩,g20⟩;refine ⟨fun _=>g20,?_⟩;have g:=g.trans g20;have k20:Kd w20 (fun k=>k<w20.heap.size) (refCheck TA).1.kids (.slice p20 (refCheck TA).1.kids.length c20):=Kd.mono k20 fun k _ h=>h;rw [rA,← hA];rw [← hA] at k20;refine Zu J (Ju J J (Ju J J (Ju J J (Yt J Zp J ?_))));intro b1 w1 N1;have l1:=N1.ge g;have nat1:=N1.at_;have nsz1:=N1.size;have gsz1:=g.size;have g:=g.trans N1.g;have k20:=k20.grow (N1.g);have E:=(Qs _).new N1;refine Zra Yk J J J E.g0 ?_;intro wS1 hgS1 _ BS;replace E:=E.s0 hgS1 BS;have g:=Yq g hgS1 O;have k20:=k20.keep hgS1 (fun k hk _ e=>by injection e with e;omega);refine Xf J (Xf J (Ze (kq (Zk (Zn (Xe J (Zy Yba Wz (aqc J aq0) J) (Veb pB qB _ ((hL.grow g).top)) ?_))))));rintro v25 w25 ⟨⟨u25,rfl,p25,c25,rfl,_⟩,g25⟩;refine ⟨fun _=>g25,?_⟩;have g:=g.trans g25;replace E:=E.grow g25;have k20:=k20.grow (g25);have sz25:=g25.size;rw [rB.1,rB.2];refine Zu J (Ju J J (Ju J J (Ju J J (Yt J Zp J ?_))));intro b4 w4 N4;have l4:=N4.ge g;have nat4:=N4.at_;have nsz4:=N4.size;have gsz4:=g.size;have g:=g.trans N4.g;have k20:=k20.grow (N4.g);replace E:=E.new N4;refine Zra Yk J J J E.g0 ?_;intro wS2 hgS2 _ BS;replace E:=E.s0 hgS2 BS;have g:=Yq g hgS2 O;have k20:=k20.keep hgS2 (fun k hk _ e=>by injection e with e;omega);refine Xf J (Xf J (Ze (kq (Zk (Zn (Xe J (Zy Yba Wz (aqc J aq0) J) (Veb pC qC _ ((hL.grow g).top)) ?_))))));rintro v30 w30 ⟨⟨u30,rfl,p30,c30,rfl,_⟩,g30⟩;refine ⟨fun _=>g30,?_⟩;have g:=g.trans g30;replace E:=E.grow g30
 have k20:=k20.grow (g30);have sz30:=g30.size;rw [rC.1,rC.2];refine Zu J (Ju J J (Ju J J (Ju J J (Yt J Zp J ?_))));intro b7 w7 N7;have l7:=N7.ge g;have nat7:=N7.at_;have nsz7:=N7.size;have gsz7:=g.size;have g:=g.trans N7.g;have k20:=k20.grow (N7.g);replace E:=E.new N7;refine Zra Yk J J J E.g0 ?_;intro wS3 hgS3 _ BS;replace E:=E.s0 hgS3 BS;have g:=Yq g hgS3 O;have k20:=k20.keep hgS3 (fun k hk _ e=>by injection e with e;omega);refine Xf J (Xf J (Ze (kq (Zk (Zn (Xe J (Zy Yba Wz (aqc J aq0) J) (Veb pD qD _ ((hL.grow g).top)) ?_))))));rintro v35 w35 ⟨⟨u35,rfl,p35,c35,rfl,_⟩,g35⟩;refine ⟨fun _=>g35,?_⟩;have g:=g.trans g35;replace E:=E.grow g35;have k20:=k20.grow (g35);have sz35:=g35.size;rw [rD.1,rD.2];refine Zu J (Ju J J (Ju J J (Ju J J (Yt J Zp J ?_))));intro b10 w10 N10;have l10:=N10.ge g;have nat10:=N10.at_;have nsz10:=N10.size;have gsz10:=g.size;have g:=g.trans N10.g;have k20:=k20.grow (N10.g);replace E:=E.new N10;refine Zra Yk J J J E.g0 ?_;intro wS4 hgS4 _ BS;replace E:=E.s0 hgS4 BS;have g:=Yq g hgS4 O;have k20:=k20.keep hgS4 (fun k hk _ e=>by injection e with e;omega);refine Xf J (Xf J (Ze (kq (Zk (Zn (Xe J (Zy Yba Wz (aqc J aq0) J) (Veb pE qE _ ((hL.grow g).top)) ?_))))));rintro v40 w40 ⟨⟨u40,rfl,p40,c40,rfl,_⟩,g40⟩;refine ⟨fun _=>g40,?_⟩;have g:=g.trans g40;replace E:=E.grow g40;have k20:=k20.grow (g40);have sz40:=g40.size;rw [rE.1,rE.2];refine Zu J (Ju J J (Ju J J (Ju J J (Yt J Zp J ?_))));intro b13 w13 N13;have l13:=N13.ge g;have nat13:=N13.at_;have nsz13:=N13.size;have gsz13:=g.size;have g:=g.trans N13.g;have k20:=k20.grow (N13.g);replace E:=E.new N13;refine Zra Yk J J J E.g0 ?_;intro wS5 hgS5 _ BS;replace E:=E.s0 hgS5 BS
 have g:=Yq g hgS5 O;have k20:=k20.keep hgS5 (fun k hk _ e=>by injection e with e;omega);refine Xf J (Xf J (Ze (kq (Zk (Zk (Zn (Zu J (Zdf J J (Zu J (Zv J J J (fun _=>Zw (Zc J)) (Zv J J J (fun _=>Woa (Yc J id) Xv) (Zz J (fun _=>Xo (Zc J) (Yc J id)) (Zu J (Zv J J J (fun _=>Zw (Zc J)) (Zv J J J (fun _=>Woa (Yc J id) Xv) (Zz J (fun _=>Xo (Zc J) (Yc J id)) (?_)))))))))))))))));refine Zu J (Zv J J J (fun _=>Zw (Zc J)) (Zv J J J (fun _=>Woa (Yc J id) Xv) (Zz J (fun _=>Xo (Zc J) (Yc J id)) (Zu J (Zv J J J (fun _=>Zw (Zc J)) (Zv J J J (fun _=>Woa (Yc J id) Xv) (Zz J (fun _=>Xo (Zc J) (Yc J id)) (Zu J (Zv J J J (fun _=>Zw (Zc J)) (Zv J J J (fun _=>Woa (Yc J id) Xv) (Zz J (fun _=>Xo (Zc J) (Yc J id)) (Zu J (Zv J J J (fun _=>Zw (Zc J)) (Zv J J J (fun _=>Woa (Yc J id) Xv) (Zz J (fun _=>Xo (Zc J) (Yc J id)) (?_))))))))))))))));refine Zu J (Zv J J J (fun _=>Zw (Zc J)) (Zv J J J (fun _=>Woa (Yc J id) Xv) (Zz J (fun _=>Xo (Zc J) (Yc J id)) (Zu J (Zv J J J (fun _=>Zw (Zc J)) (Zv J J J (fun _=>Woa (Yc J id) Xv) (Zz J (fun _=>Xo (Zc J) (Yc J id)) (Vh [(0,_,_),(1,_,_),(77,_,_)] (Zb J (Zb J (Zb J (Zq _)))) (Ze (kq (Um J (fun h1=>?_) (fun h1=>?_))))))))))))
 ·exact absurd h1 Od
  done
 (try simp only [bsimp] at h1);refine Yu (kq (Zk (Zn (Va Zf J J E.g4.row (Xe J (Zy Xyb Wz (aqc J aq0) J) (Vmd A _ (fun k=>k<w20.heap.size) _ k20 O) ?_)))));rintro v79 w79 ⟨hk79,g79⟩;refine ⟨fun _=>g79,?_⟩;have g:=g.trans g79;replace E:=E.grow g79;obtain ⟨p79,c79,rfl,_⟩:=id hk79;refine Xf J (Ze (kq (Zk (Zn (Xf J (Ze (kq (Zk (Zk (Zn (Xf J (Ze (kq (Yw (Qk (fun (i:Nat) u1=>(i≤(listN A).length)∧G w79 u1) [(0,True,_),(16,True,_)] (fun (i:Nat)=>[(17,True,.int .i64 (upS ((listN A).take i))),(18,True,.int .i64 i)]) (fun (i:Nat)=>(listN A).length-i) (0) ⟨Nat.zero_le _,G.refl _⟩ (Zb J (Zb J (Zb J (Zb J (Zq _))))) ?_)))))))))))))));rintro i u1 ⟨hI1,gl1⟩;have g:=g.trans gl1;replace E:=E.grow gl1;have hk79:=hk79.grow gl1;refine Zk (Zk (Zn (Zu J (Zu J (Xva Zd J (Ykb J J (Ze (kq (Um J (fun h2=>?_) (fun h2=>?_))))))))))
 ·replace h2:i<(listN A).length:=by simp only [Zah] at h2;omega
  obtain ⟨e0,p1,c1,hcell,_⟩:=Yr (t:=lT (listN A)) hk79 (i:=i) h2;have eL:Za (lT (listN A)) i=(listN A)[i]:=Yj (t:=lT (listN A)) h2;rw [eL] at hcell;have hb1:=Udf (l:=(listN A).take i) fun t ht=>hup t (List.mem_of_mem_take ht);have hb2:=hup _ (Aha h2);have hb3:((listN A).take i).length≤1000:=by rw [Axa];omega
  refine Yu (kq (Zk (Yw (Zk (Zn (Zu J (Zu J (Yja Zd J J O e0 (Xa Xd J (Xn Yf J (hcell.one (i:=0) J) (Yjb J J (Zu J (Zv J J J (fun _=>Zw (Zc J)) (Zv J J J (fun _=>Zw (Zc J)) (Zv J J J (fun _=>Xr Zd (Yc J id) (Yc J id) (fun _=>O) (fun _=>e0)) (Zv J J J (fun _=>Zh Xt (Yc J id)) (?_)))))))))))))))));refine Wb J J J (Zt Xc (Yc J id) (fun _=>hcell.one (i:=1) J)) (Zv J J J (fun _=>Zxc (Yc J id) Xv) (Zz J (fun _=>Wn (Zc J) (Yc J id)) (Zu J (Zv J J J (fun _=>Zw (Zc J)) (Zv J J J (fun _=>Zw (Zc J)) (Zv J J J (fun _=>Xr Zd (Yc J id) (Yc J id) (fun _=>O) (fun _=>e0)) (Zv J J J (fun _=>Zh Qz (Yc J id)) (Wb J J J (Zt Yf (Yc J id) (fun _=>hcell.one (i:=7) J)) (Zv J J J (fun _=>Wna (Yc J id) Xv) (Zz J (fun _=>Wn (Zc J) (Yc J id)) (Zu J (Zv J J J (fun _=>Zw (Zc J)) (Zv J J J (fun _=>Zw (Zc J)) (Zv J J J (fun _=>Xr Zd (Yc J id) (Yc J id) (fun _=>O) (fun _=>e0)) (Zv J J J (fun _=>Zh Ux (Yc J id)) (?_))))))))))))))));refine Wb J J J (Zt Yf (Yc J id) (fun _=>hcell.one (i:=2) J)) (Zv J J J (fun _=>Wna (Yc J id) Xv) (Zz J (fun _=>Wn (Zc J) (Yc J id)) (Zu J (Zv J J J (fun _=>Zw (Zc J)) (Zv J J J (fun _=>Zw (Zc J)) (Zv J J J (fun _=>Xr Zd (Yc J id) (Yc J id) (fun _=>O) (fun _=>e0)) (Zv J J J (fun _=>Zh Yh (Yc J id)) (Zv J J J (fun _=>Zh Uqb (Yc J id)) (Wb J J J (Zt Yf (Yc J id) (fun _=>hcell.one (i:=5) J)) (Zv J J J (fun _=>Wna (Yc J id) Xv) (Zz J (fun _=>Wn (Zc J) (Yc J id)) (Ze (kq (Um J (fun h3=>?_) (fun h3=>?_)))))))))))))))
  ·have hu:useX (listN A)[i]=true:=h3
   refine Zn (Zu J (Zu J (Zu J (Yja Zd J J O e0 (Xa Jza J (Xn Yf J (hcell.one (i:=8) J) (Zeb J J O (Xf J (Ze (kq (Zn (Zu J (Zeb J J O (Xf J (Vh [(17,_,_),(18,_,_),(0,_,_),(16,_,_)] (Zb J (Zb J (Zb J (Zb J (Zq _))))) (Ze (fun a ha=>?_)))))))))))))))));exact ⟨i+1,by rw [Qld h2,hu,Zfh];exact ha,⟨h2,gl1⟩,O⟩
  have hu:useX (listN A)[i]=false:=h3;refine Yu (kq (Zn (Zu J (Zeb J J O (Xf J (Vh [(17,_,_),(18,_,_),(0,_,_),(16,_,_)] (Zb J (Zb J (Zb J (Zb J (Zq _))))) (Ze (fun a ha=>?_))))))));exact ⟨i+1,by rw [Qld h2,hu,Zeh,Int.add_zero];exact ha,⟨h2,gl1⟩,O⟩
 replace h2:i=(listN A).length:=by simp only [Zbh] at h2;omega
 subst h2;refine Xka J (kq (Zk (Zn (Zu J (Yjb J J (Xf J (Ze (kq (We (Vz J J ?_))))))))));rw [Aza,huA];exact ⟨rfl,g⟩
theorem Zwa(t:Nd):(plainT t).kind=t.kind:=by rw [Vb];rfl
theorem Wma(t:Nd):(plainT t).text=t.text:=by rw [Vb];rfl
theorem Xnc(t:Nd):(plainT t).pos=t.pos:=by rw [Vb];rfl
theorem Yme:plainT nd0=nd0:=by rw [Vb];rfl
theorem Vfb{α β:Type}(f:α→β)(l:List α)(i:Nat)(d:α)(e:β)(h:f d=e):(l.map f).getD i e=f (l.getD i d):=by
 rw [Ada,Bna,Ada]
 cases l[i]? with
 | none=>exact h.symm
 | some k=>rfl
theorem Jt(t:Nd)(i:Nat):Za (plainT t) i=plainT (Za t i):=by
 unfold Za;rw [Ja];exact Vfb plainT t.kids i nd0 nd0 Yme
theorem Yvg(t:Nd):Jla (plainT t)=Jla t:=by unfold Jla;rw [Zub]
theorem Vgb(t:Nd):ofF (plainT t)=ofF t:=by unfold ofF;rw [Yvg,Zwa,Wma]
theorem Ywg(t:Nd):kid0 (plainT t)=plainT (kid0 t):=Jt t 0
theorem Uvg(f:Nd):Zka (plainT f)=Zka f:=by unfold Zka;rw [Zwa,Zub,Ywg,Vgb,Wma]
theorem Vde{α β γ:Type}(f:β→Option γ)(g:α→β):∀ l:List α,mapO f (l.map g)=mapO (fun x=>f (g x)) l
 | []=>rfl
 | x::l=>by rw [Asa,mapO,mapO,Vde f g l]
section
variable (F t:Nd) (x:Nat→Ck)
theorem Uwg(d:Nd):(Za (plainT d) 0).kids.map (fun p=>(ofF (Za p 0)).1)=(Za d 0).kids.map (fun p=>(ofF (Za p 0)).1):=by
 rw [Jt,Ja,Ala];exact Ana fun p _=>by show (ofF (Za (plainT p) 0)).1=_;rw [Jt,Vgb]
end
theorem Vee:∀ t,endT (plainT t)=endT t:=by
 refine Nd.ind fun t ih=>?_;rw [Zda,Zda t,Ja,Ala,Ana (f:=endT ∘ plainT) (g:=endT) fun k hk=>ih k hk];unfold endP;simp only [Zwa,Jt]
theorem Uxg(n:Nd)(i:Nat):dupAt (plainT n) i=dupAt n i:=by
 unfold dupAt;rw [Ja,← List.map_take,Bga,Jt,Wma];congr 1;funext k;show decide ((plainT k).text=_)=_;rw [Wma]
theorem Qmd(F:Nd):validB (plainT F)=validB F:=by rw [← Vyd,Vzd,Vyd]
def Al(x t:Nd):Prop:=plainT x=plainT t
structure Pl (t:Nd) (c:Ck):Prop where
  ex:exprB t=true→∀ S,Al (c.ex S).1 t
  mem:t.kind=28→exprB t=true→∀ S,Al (c.mem S).1.1 t
  rcv:t.kind≠28→exprB t=true→∀ S,(c.rcv S).2=true→Al (c.rcv S).1 t
  cal:exprB t=true→∀ S,Al (c.cal S).1.1 t
  st:stmtB t=true→∀ S,Al (c.st S).1 t
  blk:blockB t=true→∀ S,Al (c.blk S).1 t
  ifs:ifB t=true→∀ S,Al (c.ifs S).1 t
  sts:blockB t=true→∀ S,Al (c.sts S).1 t
  cas:Xga t=true→∀ f S,Al (c.cas f S).1 t
theorem Zbb{t:Nd}{ks:List Nd}{y:Ty}(h:ks.map plainT=t.kids.map plainT):Al (annT t ks y) t:=by
 unfold Al
 have hn:numS (annT t ks y)=numS t:=by
  unfold numS;rw [show Wj (annT t ks y)=Wj t from rfl];cases h:Wj t;rfl;show (bif Wj t then t.num else 0)=_;rw [h]
 rw [Vb,Vb t,hn];show Nd.mk t.kind t.text (numS t) t.pos (ks.map plainT) ty0 0 0=_;rw [h]
theorem Qlc{t:Nd}(h:t.kids=[]):Al (clnT t) t:=Zbb (ks:=[]) (y:=ty0) (by rw [h])
theorem Qnd{t:Nd}{ks:List Nd}{y:Ty}{n r u:Int}(hc:Wj t=false)(h:ks.map plainT=t.kids.map plainT):Al (.mk t.kind t.text n t.pos ks y r u) t:=by
 unfold Al;have e1:numS (.mk t.kind t.text n t.pos ks y r u)=0:=by unfold numS;rw [show Wj (.mk t.kind t.text n t.pos ks y r u)=Wj t from rfl,hc];rfl
 have e2:numS t=0:=by unfold numS;rw [hc];rfl
 rw [Vb,Vb t,e1,e2];show Nd.mk t.kind t.text 0 t.pos (ks.map plainT) ty0 0 0=_;rw [h]
theorem Wmd{t:Nd}{k:Int}(h:t.kind=k)(h1:k≠24)(h2:k≠25):Wj t=false:=by unfold Wj;rw [Jxg O,Jxg O];rfl
theorem Vfe{t:Nd}(h:t.kids.length=2):t.kids=[Za t 0,Za t 1]:=by
 unfold Za
 match t.kids,h with
 | [a,b],_=>rfl
theorem Jfe{t:Nd}(h:t.kids.length=3):t.kids=[Za t 0,Za t 1,Za t 2]:=by
 unfold Za
 match t.kids,h with
 | [a,b,c],_=>rfl
theorem Uef{t:Nd}(h:t.kids.length=1):t.kids=[Za t 0]:=by
 unfold Za
 match t.kids,h with
 | [a],_=>rfl
theorem Xoc{t a:Nd}{y:Ty}(hl:t.kids.length=1)(h:Al a (Za t 0)):Al (annT t [a] y) t:=Zbb (by rw [Uef hl];show [plainT a]=[plainT _];rw [h])
theorem Jge{t a b:Nd}{y:Ty}(hl:t.kids.length=2)(h:Al a (Za t 0))(k:Al b (Za t 1)):Al (annT t [a,b] y) t:=Zbb (by rw [Vfe hl];show [plainT a,plainT b]=[plainT _,plainT _];rw [h,k])
theorem al_3{t a b c:Nd}{y:Ty}(hl:t.kids.length=3)(h:Al a (Za t 0))(k:Al b (Za t 1))(j:Al c (Za t 2)):Al (annT t [a,b,c] y) t:=Zbb (by rw [Jfe hl];show [plainT a,plainT b,plainT c]=[plainT _,plainT _,plainT _];rw [h,k,j])
theorem Uff{t:Nd}{y:Ty}(hl:t.kids=[]):Al (annT t [] y) t:=Zbb (by rw [hl])
theorem Xcb{t:Nd}(hx:exprB t=true)(hk:t.kind=24∨t.kind=25∨t.kind=26∨t.kind=27∨t.kind=34):t.kids=[]:=by
 rw [← Qn] at hx;unfold Yla at hx
 have fin:∀ q:Bool,(q&&lenK t 0)=true→t.kids=[]:=fun q h=>by
  have hz:=(Aea.1 h).2;unfold lenK at hz;simpa using hz
 rcases hk with h|h|h|h|h <;> rw [h] at hx
 have hx:((plainB t&&lenK t 0)&&decide (0≤t.num))=true:=hx;exact fin _ (Aea.1 hx).1;have hx:((plainB t&&lenK t 0)&&(decide (t.num=0) || decide (t.num=1)))=true:=hx;exact fin _ (Aea.1 hx).1;exact fin _ hx;exact fin _ hx;exact fin _ hx
section
variable {F t:Nd} {x:Nat→Ck} {S:CSt}
theorem Wnd(ht:t.kind=27)(hl:t.kids=[]):Al (lookR F S t).1 t:=by
 have hc:=Wmd ht Od Od;have e:([]:List Nd).map plainT=t.kids.map plainT:=by rw [hl]
 unfold lookR;split;exact Qnd hc e;cases decide (0≤(findD F 6 t.text).2);cases decide (0≤(findD F 4 t.text).2);exact Qlc hl;exact Qnd hc e;exact Qnd hc e
theorem Ugf(X:∀ i,Pl (Za t i) (x i))(ht:t.kind=28)(hx:exprB t=true):Al (memR F t x S).1.1 t:=by
 obtain ⟨_,hl,h0⟩:=sh28 ht hx;have a:=(X 0).ex h0 S;unfold memR;dsimp only;cases decide (((x 0).ex S).1.ty.kind=4);exact Xoc hl a;simp only [Zfh];split <;> exact Xoc hl a
theorem Uyg(ht:t.kind≠28)(hx:exprB t=true)(hr:(rcvR F t x S).2=true):Al (rcvR F t x S).1 t:=by
 unfold rcvR at hr ⊢;cases h1:decide (t.kind=27);rw [h1,Jxg ht] at hr;cases hr;have h:=Zch h1;exact Wnd h (Xcb hx O)
theorem Uhf(X:∀ i,Pl (Za t i) (x i))(hk:t.kids.all exprB=true)(ps:List Ty)(S:CSt):∀ i,i+1≤t.kids.length→(argA t x ps S i).1.map plainT=((t.kids.take (i+1)).drop 1).map plainT
 | 0,_=>by rw [Bsa];rfl
 | i+1,hi=>by
  show ((argA t x ps S i).1++[((x (i+1)).ex (argA t x ps S i).2).1]).map plainT=_;rw [Afa,Uhf X hk ps S i O,Aya (show i+1<t.kids.length by omega),List.drop_append_of_le_length (by rw [Axa];omega),Afa];have a:=(X (i+1)).ex (Xs hk O) (argA t x ps S i).2;rw [← Yj (show i+1<t.kids.length by omega)];show _++[plainT _]=_++[plainT _];rw [a]
theorem Yxg(X:∀ i,Pl (Za t i) (x i))(ht:t.kind=30)(hx:exprB t=true):Al (callR t x S).1 t:=by
 obtain ⟨h1,h2⟩:=sh30 ht hx;have a:=(X 0).cal (Xs h2 h1) S;refine Zbb ?_;rw [Asa,Uhf X h2 _ _ _ O,a,Nat.sub_add_cancel h1,Aza]
 obtain ⟨k,ks,e⟩:∃ k ks,t.kids=k::ks:=by
  match h:t.kids,h1 with
  | k::ks,_=>exact ⟨k,ks,rfl⟩
 unfold Za;rw [e];rfl
theorem Uzg(X:∀ i,Pl (Za t i) (x i))(ht:t.kind=38)(hx:exprB t=true):Al (litR t x S).1 t:=Xoc (sh38 ht hx).1 ((X 0).blk (sh38 ht hx).2 _)
theorem Wkg(X:∀ i,Pl (Za t i) (x i))(hx:exprB t=true)(hk:t.kind∈([29,31,32,33,35,36,37]:List Int)):Al (opR t x S).1 t:=by
 unfold opR;dsimp only [wantS];cases h29:decide (t.kind=29)
 case true =>
  obtain ⟨hl,h0,h1⟩:=sh29 (Zch h29) hx;exact Jge hl ((X 0).ex h0 _) ((X 1).ex h1 _)
 cases h31:decide (t.kind=31)
 case true =>
  obtain ⟨_,hl,h0⟩:=sh31 (Zch h31) hx;exact Xoc hl ((X 0).ex h0 _)
 cases h32:decide (t.kind=32)
 case true =>
  obtain ⟨_,hl,h0,h1⟩:=sh32 (Zch h32) hx;exact Jge hl ((X 0).ex h0 _) ((X 1).ex h1 _)
 cases h33:decide (t.kind=33)
 case true =>
  obtain ⟨hl,h0⟩:=sh33 (Zch h33) hx;exact Xoc hl ((X 0).ex h0 _)
 cases h37:decide (t.kind=37)
 case true =>
  obtain ⟨hl,h0⟩:=sh37 (Zch h37) hx;exact Xoc hl ((X 0).ex h0 _)
 cases h35:decide (t.kind=35)
 case true =>
  obtain ⟨hl,h0⟩:=sh35 (Zch h35) hx;exact Xoc hl ((X 0).ex h0 _)
 simp only [Zbh] at h29 h31 h32 h33 h37 h35;simp only [Ara,Aua,or_false] at hk;have h36:t.kind=36:=by omega
 obtain ⟨hl,h0⟩:=sh36 h36 hx;rw [Jyg h36];exact Xoc hl ((X 0).ex h0 _)
theorem Wod{t:Nd}(hx:exprB t=true)(h24:t.kind≠24)(h25:t.kind≠25)(h26:t.kind≠26)(h38:t.kind≠38)(h30:t.kind≠30)(h27:t.kind≠27)(h28:t.kind≠28)(h34:t.kind≠34):t.kind∈([29,31,32,33,35,36,37]:List Int):=by
 have hx:=(Aea.1 hx).1;unfold expK at hx;rw [Qwa] at hx;simp only [Ara,Aua,or_false] at hx ⊢;omega
theorem Wlg(X:∀ i,Pl (Za t i) (x i))(hx:exprB t=true):Al (exR F t x S).1 t:=by
 unfold exR;cases h24:decide (t.kind=24);case true=>exact Uff (Xcb hx (.inl (Zch h24)))
 cases h25:decide (t.kind=25);case true=>exact Uff (Xcb hx (.inr (.inl (Zch h25))))
 cases h26:decide (t.kind=26);case true=>exact Uff (Xcb hx (.inr (.inr (.inl (Zch h26)))))
 cases h38:decide (t.kind=38);case true=>exact Uzg X (Zch h38) hx
 cases h30:decide (t.kind=30);case true=>exact Yxg X (Zch h30) hx
 cases h27:decide (t.kind=27);case true=>exact Wnd (Zch h27) (Xcb hx (.inr (.inr (.inr (.inl (Zch h27))))))
 cases h28:decide (t.kind=28);case true=>exact Ugf X (Zch h28) hx
 cases h34:decide (t.kind=34);case true=>exact Uff (Xcb hx (.inr (.inr (.inr (.inr (Zch h34))))))
 simp only [Zbh] at h24 h25 h26 h38 h30 h27 h28 h34;exact Wkg X hx (Wod hx h24 h25 h26 h38 h30 h27 h28 h34)
theorem Qag(X:∀ i,Pl (Za t i) (x i))(hx:exprB t=true):Al (calR F t x S).1.1 t:=by
 unfold calR;dsimp only;cases h1:(decide (t.kind=28)&&((x 0).rcv S).2);simp only [Zeh];cases h2:(decide (t.kind=27)&&((lookR F S t).2&&decide ((lookR F S t).1.ref=3)));exact Wlg X hx;have h27:=Zch (Aea.1 h2).1;exact Wnd h27 (Xcb hx (.inr (.inr (.inr (.inl h27)))));obtain ⟨h1,h2⟩:=Aea.1 h1;have ht:=Zch h1;obtain ⟨_,hl,h0⟩:=sh28 ht hx
 have a:Al (rcvX t x S).1 (Za t 0):=by
  unfold rcvX;cases h3:decide ((Za t 0).kind=28);exact (X 0).rcv (Zdh h3) h0 S h2;exact (X 0).mem (Zch h3) h0 S
 exact Xoc hl a
theorem Uif(X:∀ i,Pl (Za t i) (x i))(hb:t.kids.all stmtB=true)(S:CSt):∀ i,i≤t.kids.length→(stA x S i).1.map plainT=(t.kids.take i).map plainT
 | 0,_=>rfl
 | i+1,hi=>by
  show ((stA x S i).1++[((x i).st (stA x S i).2).1]).map plainT=_;rw [Afa,Uif X hb S i O,Aya (show i<t.kids.length by omega),Afa];have a:=(X i).st (Xs hb O) (stA x S i).2;rw [← Yj (show i<t.kids.length by omega)];show _++[plainT _]=_++[plainT _];rw [a]
theorem Yne(X:∀ i,Pl (Za t i) (x i))(hb:blockB t=true):Al (stsR t x S).1 t:=Zbb (by rw [Uif X (sh10 hb) S _ (Aba _),Aza])
theorem Vxb{t:Nd}(h:noneB t=true):t.kids=[]:=Bta.1 (Vy h).2.2
theorem Vge(X:∀ i,Pl (Za t i) (x i))(hx:noneB (Za t 0)=true∨exprB (Za t 0)=true):Al (condR (Za t 0) (x 0) S).1 (Za t 0):=by
 unfold condR;cases h1:decide ((Za t 0).kind=9);exact (X 0).ex (hx.resolve_left fun q=>Zdh h1 (Vy q).1) S;exact Qlc (hx.elim Vxb fun q=>absurd (Zch h1) (Zab q))
theorem Wmg(X:∀ i,Pl (Za t i) (x i))(hb:ifB t=true):Al (ifR t x S).1 t:=by
 obtain ⟨hl,h0,h1,h2⟩:=sh18 hb;unfold ifR;dsimp only;refine al_3 hl (Vge X (.inr h0)) ((X 1).blk h1 _) ?_;cases h3:decide ((Za t 2).kind=10);cases h4:decide ((Za t 2).kind=18);rcases h2 with q|q|q;rw [Uu q] at h3;cases h3;rw [show (Za t 2).kind=18 from Zch (Aea.1 q).1] at h4;cases h4;exact Qlc (Vxb q);refine (X 2).ifs ?_ _;have h4:=Zch h4;rcases h2 with q|q|q;rw [Uu q] at h4;cases h4;exact q;rw [(Vy q).1] at h4;cases h4;refine (X 2).blk ?_ _;have h3:=Zch h3;rcases h2 with q|q|q;exact q;rw [show (Za t 2).kind=18 from Zch (Aea.1 q).1] at h3;cases h3;rw [(Vy q).1] at h3;cases h3
theorem Jhe{t:Nd}(h:commF t=true)(h9:t.kind=9):t.kids=[]:=by
 rw [← Qsb,Zec] at h;rw [h9] at h;have h:(stmtB t || noneB t)=true:=h;rcases Bool.or_eq_true_iff.1 h with q|q;exact absurd h9 (Qbb q);exact Vxb q
theorem Qbg(X:∀ i,Pl (Za t i) (x i))(hb:Xga t=true)(f:Bool):Al (casR t x f S).1 t:=by
 obtain ⟨hk,hl,hc,hb1⟩:=sh23 hb;unfold casR;dsimp only;refine Jge hl ?_ ((X 1).sts hb1 _);cases h1:decide ((Za t 0).kind=9);exact (X 0).st ((Vrb hc).resolve_left (Zdh h1)) _;exact Qlc (Jhe hc (Zch h1))
theorem Vhe(X:∀ i,Pl (Za t i) (x i))(hb:t.kids.all Xga=true)(S:CSt):∀ i,i≤t.kids.length→(selA t x S i).1.map plainT=(t.kids.take i).map plainT
 | 0,_=>rfl
 | i+1,hi=>by
  show ((selA t x S i).1++[((x i).cas (selA t x S i).2.1 (selA t x S i).2.2).1]).map plainT=_;rw [Afa,Vhe X hb S i O,Aya (show i<t.kids.length by omega),Afa];have a:=(X i).cas (Xs hb O) (selA t x S i).2.1 (selA t x S i).2.2;rw [← Yj (show i<t.kids.length by omega)];show _++[plainT _]=_++[plainT _];rw [a]
theorem Vie(t:Nd):Al (plainT t) t:=Zea t
theorem Ujf{t:Nd}{ks:List Nd}{k:Nat}(hc:t.kind=6∨t.kind=11)(h:ks.map plainT=t.kids.map plainT):Al (dclT t ks k) t:=Qnd (hc.elim (fun h=>Wmd h Od Od) fun h=>Wmd h Od Od) h
theorem Qcg(X:∀ i,Pl (Za t i) (x i))(ht:t.kind=6)(hb:varB t=true):Al (varR F t x S).1 t:=by
 obtain ⟨_,hl,h0,h1⟩:=sh6 hb;unfold varR;dsimp only;refine Ujf (.inl ht) ?_;rw [Vfe hl]
 have a:Al (bif decide ((Za t 1).kind=9) then (clnT (Za t 1),localS F (Za t 0) S) else (((x 1).ex (localS F (Za t 0) S)).1,failU (Vg (ofF (Za t 0)).1 ((x 1).ex (localS F (Za t 0) S)).1.ty) (Za t 1).pos 7 ((x 1).ex (localS F (Za t 0) S)).2)).1 (Za t 1):=by
  cases h2:decide ((Za t 1).kind=9);exact (X 1).ex (h1.resolve_left fun q=>Zdh h2 (Vy q).1) _;exact Qlc (h1.elim Vxb fun q=>absurd (Zch h2) (Zab q))
 show [plainT (plainT _),plainT _]=[plainT _,plainT _];rw [Zea,a]
theorem Qdg(X:∀ i,Pl (Za t i) (x i))(ht:t.kind=11)(hb:stmtB t=true):Al (defR t x S).1 t:=by
 obtain ⟨_,hl,h0⟩:=sh11 ht hb;have a:=(X 0).ex h0 S;unfold defR;dsimp only;refine Ujf (.inr ht) ?_;rw [Uef hl];show [plainT _]=[plainT _];rw [a]
theorem Wpd{t:Nd}(hb:stmtB t=true)(h10:t.kind≠10)(h18:t.kind≠18)(h12:t.kind≠12)(h22:t.kind≠22)(h6:t.kind≠6)(h11:t.kind≠11)(h19:t.kind≠19)(h20:t.kind≠20)(h16:t.kind≠16):t.kids.length=1∧exprB (Za t 0)=true:=by
 have hx:=(Aea.1 hb).1;unfold stK at hx;rw [Qwa] at hx;simp only [Ara,Aua,or_false] at hx;rcases hx with e|e|e|e|e|e|e|e|e|e|e|e|e|e;exact absurd e h6;exact absurd e h10;exact absurd e h11;exact absurd e h12;exact sh13 e hb;exact sh14 e hb;exact sh15 e hb;exact absurd e h16;exact sh17 e hb;exact sh21 e hb;exact absurd e h18;exact absurd e h19;exact absurd e h20;exact absurd e h22
theorem al_st(X:∀ i,Pl (Za t i) (x i))(hb:stmtB t=true):Al (stR F t x S).1 t:=by
 unfold stR;dsimp only;cases h10:decide (t.kind=10);case true=>exact Yne X (sh10s (Zch h10) hb)
 cases h18:decide (t.kind=18);case true=>exact Wmg X (sh18s (Zch h18) hb)
 cases h12:decide (t.kind=12)
 case true =>
  obtain ⟨hl,h0,h1⟩:=sh12 (Zch h12) hb;exact Jge hl ((X 0).ex h0 _) ((X 1).ex h1 _)
 cases h22:decide (t.kind=22);case true=>exact Zbb (by rw [Vhe X (sh22 (Zch h22) hb) S _ (Aba _),Aza])
 cases h6:decide (t.kind=6);case true=>exact Qcg X (Zch h6) (sh6s (Zch h6) hb)
 cases h11:decide (t.kind=11);case true=>exact Qdg X (Zch h11) hb
 cases h19:decide (t.kind=19)
 case true =>
  obtain ⟨hl,h0,h1⟩:=sh19 (Zch h19) hb;exact Jge hl (Vge X h0) ((X 1).blk h1 _)
 cases h20:decide (t.kind=20)
 case true =>
  obtain ⟨h1,h2⟩:=sh20 (Zch h20) hb;simp only [Zeh,Zfh];unfold retR;dsimp only;cases h3:decide ((t.kids.length:Int)=1);exact Uff (Bta.1 (by have:=Zdh h3;omega));have h3:t.kids.length=1:=by have:=Zch h3;omega
  exact Xoc h3 ((X 0).ex (Xs h2 O) _)
 cases h16:decide (t.kind=16)
 case true =>
  obtain ⟨hl,h0,h1⟩:=sh16 (Zch h16) hb;exact Jge hl ((X 0).ex h0 _) ((X 1).ex h1 _)
 simp only [Zbh] at h10 h18 h12 h22 h6 h11 h19 h20 h16;obtain ⟨hl,h0⟩:=Wpd hb h10 h18 h12 h22 h6 h11 h19 h20 h16;have a:=(X 0).ex h0 S;simp only [Zeh,wantS];cases decide (t.kind=17);case true=>exact Xoc hl a
 cases decide (t.kind=21);case true=>exact Xoc hl a
 exact Xoc hl a
theorem pl_f(X:∀ i,Pl (Za t i) (x i)):Pl t (ckF F t x) :=
 ⟨fun hx S=>Wlg X hx,fun ht hx S=>Ugf X ht hx,fun ht hx S hr=>Uyg ht hx hr,fun hx S=>Qag X hx,fun hb S=>al_st X hb,fun hb S=>Yne X hb,fun hb S=>Wmg X hb,fun hb S=>Yne X hb,fun hb f S=>Qbg X hb f⟩
end
theorem pl_0:Pl nd0 ck0:=⟨fun _ _=>rfl,fun _ _ _=>rfl,fun _ _ _ h=>(by cases h),fun _ _=>rfl,fun _ _=>rfl,fun _ _=>rfl,fun _ _=>rfl,fun _ _=>rfl,fun _ _ _=>rfl⟩
theorem Wnc(F:Nd):∀ t,Pl t (ckT F t):=by
 refine Nd.ind fun t ih=>?_;rw [Vm];refine pl_f fun i=>?_;by_cases h:i<t.kids.length;rw [Xx h,Yj h];exact ih _ (Aha h);have e1:ckX F t i=ck0:=by rw [ckX];simp only [Ada,Bna];rw [Boa O];rfl
 have e2:Za t i=nd0:=by unfold Za;simp only [Ada];rw [Boa O];rfl
 rw [e1,e2];exact pl_0
theorem Ukf(F p:Nd)(hp:∀ f∈p.kids,f.kind=3)(S:CSt):∀ i,i≤p.kids.length→(parA F p S i).1.map plainT=(p.kids.take i).map plainT
 | 0,_=>rfl
 | i+1,hi=>by
  rw [parA];dsimp only;rw [Afa,Ukf F p hp S i O,Aya (show i<p.kids.length by omega),Afa,← Yj (show i<p.kids.length by omega)];have hk:=hp (Za p i) (by rw [Yj (show i<p.kids.length by omega)];exact Aha _);have a:Al (.mk (Za p i).kind (Za p i).text (declN (parA F p S i).2) (Za p i).pos ((Za p i).kids.map plainT) ty0 1 0) (Za p i):=Qnd (Wmd hk Od Od) (by rw [Ala];exact Ana fun k _=>Zea k);show _++[plainT _]=_++[plainT _];rw [a]
theorem Qeg{F n:Nd}(S:CSt)(hk:n.kind=4)(hp:permF n=true):Al (funR F n S).1 n:=by
 obtain ⟨hl,⟨p1,p2⟩,hr,b1,b2⟩:=pf4 hk hp;refine al_3 hl ?_ (Vie _) ((Wnc F (Za n 2)).sts (by unfold blockB;rw [b1,b2];rfl) _);exact Zbb (by rw [Ukf F (Za n 0) (fun f hf=>(Yna (.inr p1) p2 f hf).1) _ _ (Aba _),Aza])
theorem Yyg{F n:Nd}(S:CSt)(hp:permF n=true):Al (dclR F n S).1 n:=by
 unfold dclR;cases h2:decide (n.kind=2);case true=>exact Vie n
 cases h6:decide (n.kind=6);case true=>exact Vie n
 cases h4:decide (n.kind=4);case true=>exact Qeg S (Zch h4) hp
 exact Vie n
theorem Vje{F:Nd}(hp:∀ d∈F.kids,permF d=true)(S:CSt):∀ i,i≤F.kids.length→(dclA F S i).1.map plainT=(F.kids.take i).map plainT
 | 0,_=>rfl
 | i+1,hi=>by
  rw [dclA];dsimp only;rw [Afa,Vje hp S i O,Aya (show i<F.kids.length by omega),Afa,← Yj (show i<F.kids.length by omega)];have a:=Yyg (F:=F) (dclA F S i).2 (hp (Za F i) (by rw [Yj (show i<F.kids.length by omega)];exact Aha _));show _++[plainT _]=_++[plainT _];rw [a]
theorem Jie{t:Nd}(h:permF t=true):∀ k∈t.kids,permF k=true:=by
 rw [Uo,Aga,Aia] at h;exact h.2
theorem Qmc{F:Nd}(h:validB F=true):F.kind=1∧permF F=true:=by
 unfold validB permB at h;simp only [Aga,Zah] at h;exact ⟨h.1,h.2.1⟩
theorem Vke{F:Nd}(hv:validB F=true):Al (refA F) F:=by
 obtain ⟨h1,hp⟩:=Qmc hv;exact Zbb (by rw [Vje (Jie hp) _ _ (Aba _),Aza])
theorem Yzg{F:Nd}(hv:validB F=true):count (refA F)=count F:=by rw [← Xzc (refA F),Vke hv,Xzc]
theorem Qfg{F:Nd}(h:(refCheck F).2.2=0):validB F=true∧refCheck F=(refA F,0,0):=by
 cases hv:validB F;rw [Wcd hv] at h;exact absurd h (show ¬ (1:Int)=0 by decide);refine ⟨rfl,?_⟩;by_cases he:(refS F).ee=0;exact Uvd hv he;rw [Wme hv he] at h;exact absurd h he
def tqB(x:Nd):Bool :=
 (!decide (x.kind=27) || !decide (x.ref=0))&&(!decide (x.kind=12) || (decide ((x.kids.length:Int)=2)&&Vg (Za x 0).ty (Za x 1).ty)) &&
 (!decide (x.kind=32) || (decide ((x.kids.length:Int)=2)&&((binT x.text (Za x 0).ty (Za x 1).ty).2&&tyEqB (binT x.text (Za x 0).ty (Za x 1).ty).1 x.ty)))
def AllQ(x:Nd):Prop:=∀ y∈listN x,tqB y=true
structure Tp (t:Nd) (c:Ck):Prop where
  ex:exprB t=true→∀ S,(c.ex S).2.ee=0→AllQ (c.ex S).1
  mem:t.kind=28→exprB t=true→∀ S,(c.mem S).2.ee=0→AllQ (c.mem S).1.1
  rcv:t.kind≠28→exprB t=true→∀ S,(c.rcv S).2=true→AllQ (c.rcv S).1
  cal:exprB t=true→∀ S,(c.cal S).2.ee=0→AllQ (c.cal S).1.1
  st:stmtB t=true→∀ S,(c.st S).2.ee=0→AllQ (c.st S).1
  blk:blockB t=true→∀ S,(c.blk S).2.ee=0→AllQ (c.blk S).1
  ifs:ifB t=true→∀ S,(c.ifs S).2.ee=0→AllQ (c.ifs S).1
  sts:blockB t=true→∀ S,(c.sts S).2.ee=0→AllQ (c.sts S).1
  cas:Xga t=true→∀ f S,(c.cas f S).2.ee=0→AllQ (c.cas f S).1
theorem Er.z{S T:CSt}(h:Er S T)(h0:T.ee=0):S.ee=0:=Decidable.byContradiction fun hn=>hn ((h hn).1.symm.trans h0)
theorem fs0{a e:Int}{S:CSt}(h:(failS a e S).ee=0)(he:e≠0:=by decide):False:=Urd he h
section
variable {F t:Nd} {x:Nat→Ck} {S:CSt}
end
theorem Zqd{F:Nd}(hv:validB F=true):∀ d∈F.kids,(d.kind=2∨d.kind=6∨d.kind=4)∧(d.kind=6→Vu d=false)∧permF d=true:=fun d hd=>by
 obtain ⟨h1,hp⟩:=Qmc hv;have hf:=Qca hp;rw [formB,h1] at hf;have hf:((!(F.kids.any Vu)&&everyB F (memK [2,6,4]))&&F.kids.all permF)=true:=hf;simp only [Aga,Bool.not_eq_true',Bua,everyB,Aia,memK,Zah] at hf;have hk:=hf.1.2 d hd;simp only [Ara,Aua,or_false] at hk;exact ⟨hk,fun _=>by simpa using hf.1.1 d hd,hf.2 d hd⟩
structure Hq (t t':Nd):Prop where
  kind:t'.kind=t.kind
  text:t'.text=t.text
  of:ofF t'=ofF t
inductive InR (u:List UInt8→Bool):Nd→Nd→Prop
  | nd {t t':Nd} (h:Hq t t') (hu:u t.text=false) (hl:t'.kids.length=t.kids.length) (hk:∀ i,i<t.kids.length→InR u (Za t i) (Za t' i)):InR u t t'
  | bl {t t':Nd} (h:Hq t t') (hu:u t.text=false) (ht:t.kind=10) (hd:(Za t' 0).kind=6∧u (Za t' 0).text=true∧(Za (Za t' 0) 0).kind=7∧Vl (ofF (Za (Za t' 0) 0)).1=true∧(Za (Za t' 0) 1).kind=9) (hl:t'.kids.length=t.kids.length+1) (hk:∀ i,i<t.kids.length→InR u (Za t i) (Za t' (i+1))):InR u t t'
theorem InR.hq{u:List UInt8→Bool}{t t':Nd}(h:InR u t t'):Hq t t':=by cases h <;> assumption
theorem InR.u{u:List UInt8→Bool}{t t':Nd}(h:InR u t t'):u t.text=false:=by cases h <;> assumption
theorem Hq.refl(t:Nd):Hq t t:=⟨rfl,rfl,rfl⟩
theorem Jca{t:Nd}{i:Nat}(h:¬ i<t.kids.length):Za t i=nd0:=by unfold Za;simp only [Ada];rw [Boa O];rfl
structure Nk (u:List UInt8→Bool) (t t':Nd):Prop where
  h:Hq t t'
  n:u t.text=false
  l:t'.kids.length=t.kids.length
  k:∀ i,i<t.kids.length→InR u (Za t i) (Za t' i)
theorem Nk.q{u:List UInt8→Bool}{t t':Nd}(h:Nk u t t')(i:Nat):Hq (Za t i) (Za t' i):=by
 by_cases hi:i<t.kids.length;exact (h.k i hi).hq;rw [Jca hi,Jca (by rw [h.l];exact hi)];exact Hq.refl _
theorem InR.node{u:List UInt8→Bool}{t t':Nd}(h:InR u t t')(hk:t.kind≠10):Nk u t t':=by
 cases h with
 | nd h hu hl hk=>exact ⟨h,hu,hl,hk⟩
 | bl h hu ht=>exact absurd ht hk
/-! states -/
def er(v:Vr):List UInt8×Ty×Nat:=(v.name,v.typ,v.scope)
structure RU (u:List UInt8→Bool) (S S':CSt):Prop where
  vars:(S'.vars.filter fun v=>!u v.name).map er=S.vars.map er
  scope:S'.scope=S.scope
  result:S'.result=S.result
  ee:S'.ee=S.ee
  sc:Sc S
  sc':Sc S'
def NU(u:List UInt8→Bool)(S:CSt):Prop:=∀ v∈S.vars,v.scope=S.scope→u v.name=false
theorem Zma(a e:Int)(S:CSt):(failS a e S).ee=bif decide (S.ee=0) then e else S.ee:=by unfold failS;cases decide (S.ee=0) <;> rfl
section
variable {u:List UInt8→Bool} {S S' U U':CSt}
theorem RU.frame(h:RU u S S')(h1:Vs S U)(h2:U.result=S.result)(k1:Vs S' U')(k2:U'.result=S'.result)(he:U'.ee=U.ee):RU u U U' :=
 ⟨by rw [k1.vars,h1.vars];exact h.vars,by rw [k1.scope,h1.scope,h.scope],by rw [k2,h2,h.result],he,h1.sc h.sc,k1.sc h.sc'⟩
theorem RU.fail(h:RU u S S')(a a' e:Int):RU u (failS a e S) (failS a' e S') :=
 h.frame (Xbd a e S) (Jb a e S).2.2.2.2.1 (Xbd a' e S') (Jb a' e S').2.2.2.2.1 (by rw [Zma,Zma,h.ee])
theorem RU.failu(h:RU u S S'){b b':Bool}(hb:b'=b)(a a' e:Int):RU u (failU b a e S) (failU b' a' e S'):=by
 subst hb;cases b';exact h.fail a a' e;exact h
theorem RU.open(h:RU u S S'):RU u (openS S) (openS S'):=⟨h.vars,congrArg (· + 1) h.scope,h.result,h.ee,Uua h.sc,Uua h.sc'⟩
theorem NU.open(h:RU u S S'):NU u (openS S'):=fun v hv he=>by have:=h.sc' v hv;have he:v.scope=S'.scope+1:=he;omega
theorem NU.vs(h:NU u S)(k:Vs S U):NU u U:=fun v hv he=>h v (k.vars▸hv) (he.trans k.scope)
theorem NU.decl(h:NU u S){s:List UInt8}(hs:u s=false)(y:Ty)(a:Int):NU u (declS s y a S):=fun v hv he=>by
 have hv:v∈S.vars++[⟨s,y,declN S,S.level,S.scope⟩]:=hv;have e:(declS s y a S).scope=S.scope:=(Xba s y a S).scope;rcases List.mem_append.1 hv with q|q;exact h v q (he.trans e);rw [Bea.1 q];exact hs
theorem Qod(l:List Vr)(s:List UInt8):(findV l s).map er=(l.map er).reverse.find? fun k=>decide (k.1=s):=by
 unfold findV;rw [← Bha,Bva];rfl
theorem Jje(l:List Vr){s:List UInt8}(hs:u s=false):findV (l.filter fun v=>!u v.name) s=findV l s:=by
 unfold findV;rw [← List.filter_reverse,List.find?_filter];congr 1;funext v;by_cases h:v.name=s;simp [h,hs];simp [h]
theorem RU.look(h:RU u S S'){s:List UInt8}(hs:u s=false):(findV S'.vars s).map er=(findV S.vars s).map er:=by
 rw [← Jje S'.vars hs,Qod,h.vars,← Qod]
theorem RU.dup(h:RU u S S'){s:List UInt8}(hs:u s=false):dupV S' s=dupV S s:=by
 have e1:∀ (l:List Vr) (n:Nat),(l.any fun v=>decide (v.scope=n)&&decide (v.name=s))=(l.map er).any fun k=>decide (k.2.2=n)&&decide (k.1=s):=fun l n=>by rw [Bga];rfl
 have e2:(S'.vars.any fun v=>decide (v.scope=S'.scope)&&decide (v.name=s))=((S'.vars.filter fun v=>!u v.name).any fun v=>decide (v.scope=S'.scope)&&decide (v.name=s)):=by
  rw [List.any_filter];congr 1;funext v;by_cases h:v.name=s;simp [h,hs];simp [h]
 unfold dupV;rw [e2,e1,h.vars,← e1,h.scope]
theorem Xag{s s':List UInt8}{y y':Ty}{a a':Int}(h:S'.ee=S.ee)(hd:dupV S' s'=dupV S s):(declS s' y' a' S').ee=(declS s y a S).ee:=by
 show (failU (!dupV S' s') a' 6 S').ee=(failU (!dupV S s) a 6 S).ee;rw [hd];cases (!dupV S s);show (failS a' 6 S').ee=(failS a 6 S).ee;rw [Zma,Zma,h];exact h
theorem RU.decl(h:RU u S S'){s:List UInt8}(hs:u s=false)(y:Ty)(a a':Int):RU u (declS s y a S) (declS s y a' S'):=by
 refine ⟨?_,(Xba s y a' S').scope.trans (h.scope.trans (Xba s y a S).scope.symm),?_,Xag h.ee (h.dup hs),(Xba s y a S).sc h.sc,(Xba s y a' S').sc h.sc'⟩;show ((S'.vars++[(⟨s,y,declN S',S'.level,S'.scope⟩:Vr)]).filter fun v=>!u v.name).map er=(S.vars++[(⟨s,y,declN S,S.level,S.scope⟩:Vr)]).map er;rw [Cda,Afa,Afa,h.vars];have e:([(⟨s,y,declN S',S'.level,S'.scope⟩:Vr)].filter fun v=>!u v.name)=[⟨s,y,declN S',S'.level,S'.scope⟩]:=by simp [hs]
 rw [e];show _++[(s,y,S'.scope)]=_++[(s,y,S.scope)];rw [h.scope];exact ((Qg _ _ _ S').2.2.2.2.1).trans (h.result.trans ((Qg _ _ _ S).2.2.2.2.1).symm)
theorem RU.decl1(h:RU u S S')(hn:NU u S'){s:List UInt8}(hs:u s=true)(y:Ty)(a:Int):RU u S (declS s y a S'):=by
 have hd:dupV S' s=false:=by
  unfold dupV;rw [Bua];intro v hv hq;simp only [Aga,Zah] at hq;have:=hn v hv hq.1;rw [hq.2,hs] at this;cases this
 have e:declS s y a S' = { S' with next:=S'.next.set S'.level (declN S'+1),vars:=S'.vars++[⟨s,y,declN S',S'.level,S'.scope⟩] }:=by unfold declS;rw [hd];rfl
 refine ⟨?_,(Xba s y a S').scope.trans h.scope,by rw [e];exact h.result,by rw [e];exact h.ee,h.sc,(Xba s y a S').sc h.sc'⟩;show ((S'.vars++[(⟨s,y,declN S',S'.level,S'.scope⟩:Vr)]).filter fun v=>!u v.name).map er=S.vars.map er;have e:([(⟨s,y,declN S',S'.level,S'.scope⟩:Vr)].filter fun v=>!u v.name)=[]:=by simp [hs]
 rw [Cda,e,Bwa,h.vars]
theorem RU.lit(h:RU u S S'):RU u (litS S) (litS S'):=⟨h.vars,h.scope,rfl,h.ee,h.sc,h.sc'⟩
theorem RU.unlit(h:RU u S S')(k:RU u U U'):RU u { U with level:=U.level-1,result:=S.result } { U' with level:=U'.level-1,result:=S'.result }:=⟨k.vars,k.scope,h.result,k.ee,k.sc,k.sc'⟩
end
def Hd(x y:Nd):Prop:=y.kind=x.kind∧y.ty=x.ty∧y.ref=x.ref
theorem Hd.refl(x:Nd):Hd x x:=⟨rfl,rfl,rfl⟩
theorem Xta{t t':Nd}(h:t'.kind=t.kind)(ks ks':List Nd){y y':Ty}(hy:y'=y):Hd (annT t ks y) (annT t' ks' y'):=⟨h,hy,rfl⟩
structure FlR (F F':Nd):Prop where
  s2:∀ s,decide ((findD F' 2 s).2<0)=decide ((findD F 2 s).2<0)
  s6:∀ s,decide (0≤(findD F' 6 s).2)=decide (0≤(findD F 6 s).2)
  t6:∀ s,(ofF (Za (findD F' 6 s).1 0)).1=(ofF (Za (findD F 6 s).1 0)).1
  s4:∀ s,decide (0≤(findD F' 4 s).2)=decide (0≤(findD F 4 s).2)
  p4:∀ s,(Za (findD F' 4 s).1 0).kids.map (fun p=>(ofF (Za p 0)).1)=(Za (findD F 4 s).1 0).kids.map (fun p=>(ofF (Za p 0)).1)
  r4:∀ s,ofF (Za (findD F' 4 s).1 1)=ofF (Za (findD F 4 s).1 1)
  k4:∀ s,(Za (findD F' 4 s).1 1).kind=(Za (findD F 4 s).1 1).kind
  fl:∀ s,Ug F' s=Ug F s
theorem FlR.f4{F F':Nd}(H:FlR F F')(s:List UInt8):fncTy (findD F' 4 s).1=fncTy (findD F 4 s).1:=by
 have e:=congrArg List.length (H.p4 s);rw [Aca,Aca] at e;unfold fncTy;rw [e,H.k4]
structure UnC (u:List UInt8→Bool) (t:Nd) (c c':Ck):Prop where
  ex:exprB t=true→∀ S S',RU u S S'→RU u (c.ex S).2 (c'.ex S').2∧Hd (c.ex S).1 (c'.ex S').1
  mem:t.kind=28→exprB t=true→∀ S S',RU u S S'→RU u (c.mem S).2 (c'.mem S').2∧(c'.mem S').1.2=(c.mem S).1.2∧Hd (c.mem S).1.1 (c'.mem S').1.1
  rcv:exprB t=true→∀ S S',RU u S S'→(c'.rcv S').2=(c.rcv S).2∧Hd (c.rcv S).1 (c'.rcv S').1
  cal:exprB t=true→∀ S S',RU u S S'→RU u (c.cal S).2 (c'.cal S').2∧(c'.cal S').1.2=(c.cal S).1.2
  st:stmtB t=true→∀ S S',RU u S S'→RU u (c.st S).2 (c'.st S').2∧(NU u S'→NU u (c'.st S').2)
  blk:blockB t=true→∀ S S',RU u S S'→RU u (c.blk S).2 (c'.blk S').2
  ifs:ifB t=true→∀ S S',RU u S S'→RU u (c.ifs S).2 (c'.ifs S').2
  sts:blockB t=true→∀ S S',RU u S S'→NU u S'→RU u (c.sts S).2 (c'.sts S').2
  cas:Xga t=true→∀ f S S',RU u S S'→RU u (c.cas f S).2 (c'.cas f S').2
section
variable {u:List UInt8→Bool} {F F' t t':Nd} {S S':CSt}
theorem Yoe(H:FlR F F'){k k':Nd}(hk:Hq k k')(h:RU u S S'):RU u (pointerS F k S) (pointerS F' k' S'):=by
 unfold pointerS;rw [hk.kind,hk.text];cases decide (k.kind=8);exact h;exact h.failu (by rw [H.s2]) _ _ _
theorem Qnc(H:FlR F F'){k k':Nd}(hk:Hq k k')(h:RU u S S'):RU u (localS F k S) (localS F' k' S'):=(Yoe H hk h).failu (by rw [hk.of]) _ _ _
theorem Wqd(H:FlR F F')(ht:Hq t t')(hu:u t.text=false)(h:RU u S S'):(lookR F' S' t').2=(lookR F S t).2∧Hd (lookR F S t).1 (lookR F' S' t').1:=by
 have hv:=h.look hu;unfold lookR;rw [ht.text]
 cases h1:findV S.vars t.text with
 | some v =>
  rw [h1] at hv
  cases h2:findV S'.vars t.text with
  | none=>rw [h2] at hv;cases hv
  | some w =>
   rw [h2] at hv;injection hv with hv;have hy:w.typ=v.typ:=congrArg (fun k:List UInt8×Ty×Nat=>k.2.1) hv;exact ⟨rfl,ht.kind,hy,rfl⟩
 | none =>
  rw [h1] at hv
  cases h2:findV S'.vars t.text with
  | some w=>rw [h2] at hv;cases hv
  | none =>
   dsimp only;rw [H.s6,H.s4,H.t6,H.f4];cases decide (0≤(findD F 6 t.text).2);cases decide (0≤(findD F 4 t.text).2);exact ⟨rfl,ht.kind,rfl,rfl⟩;exact ⟨rfl,ht.kind,rfl,rfl⟩;exact ⟨rfl,ht.kind,rfl,rfl⟩
theorem Ype(H:FlR F F')(N:Nk u t t')(U:∀ i,UnC u (Za t i) (ckX F t i) (ckX F' t' i))(ht:t.kind=28)(hx:exprB t=true)(h:RU u S S') :
 RU u (memR F t (ckX F t) S).2 (memR F' t' (ckX F' t') S').2∧(memR F' t' (ckX F' t') S').1.2=(memR F t (ckX F t) S).1.2∧Hd (memR F t (ckX F t) S).1.1 (memR F' t' (ckX F' t') S').1.1:=by
 obtain ⟨_,hl,h0⟩:=sh28 ht hx;obtain ⟨a,b⟩:=(U 0).ex h0 S S' h;unfold memR;dsimp only;rw [b.2.1,N.h.text,H.fl];cases decide (((ckX F t 0).ex S).1.ty.kind=4);exact ⟨a.fail _ _ _,rfl,Xta N.h.kind _ _ rfl⟩;simp only [Zfh];split;exact ⟨a,rfl,Xta N.h.kind _ _ rfl⟩;exact ⟨a.fail _ _ _,rfl,Xta N.h.kind _ _ rfl⟩
theorem Qgg(H:FlR F F')(N:Nk u t t')(U:∀ i,UnC u (Za t i) (ckX F t i) (ckX F' t' i))(hx:exprB t=true)(h:RU u S S') :
 (rcvR F' t' (ckX F' t') S').2=(rcvR F t (ckX F t) S).2∧Hd (rcvR F t (ckX F t) S).1 (rcvR F' t' (ckX F' t') S').1:=by
 unfold rcvR;rw [N.h.kind];cases h27:decide (t.kind=27);cases h28:decide (t.kind=28);exact ⟨rfl,Hd.refl _⟩;obtain ⟨a,b,c⟩:=Ype H N U (Zch h28) hx h;simp only [Zeh,Zfh];rw [b,a.ee,c.2.1];exact ⟨rfl,c⟩;obtain ⟨b,c⟩:=Wqd H N.h N.n h;simp only [Zfh];rw [b,c.2.1,c.2.2];exact ⟨rfl,c⟩
theorem Ulf(N:Nk u t t')(U:∀ i,UnC u (Za t i) (ckX F t i) (ckX F' t' i))(hk:t.kids.all exprB=true)(ps:List Ty)(h:RU u S S'):∀ i,i+1≤t.kids.length→RU u (argA t (ckX F t) ps S i).2 (argA t' (ckX F' t') ps S' i).2
 | 0,_=>h
 | i+1,hi=>by
  obtain ⟨a,b⟩:=(U (i+1)).ex (Xs hk O) _ _ (Ulf N U hk ps h i O);rw [argA,argA];exact a.failu (by rw [b.2.1]) _ _ _
theorem Xbg(N:Nk u t t')(U:∀ i,UnC u (Za t i) (ckX F t i) (ckX F' t' i))(ht:t.kind=30)(hx:exprB t=true)(h:RU u S S') :
 RU u (callR t (ckX F t) S).2 (callR t' (ckX F' t') S').2∧Hd (callR t (ckX F t) S).1 (callR t' (ckX F' t') S').1:=by
 obtain ⟨h1,h2⟩:=sh30 ht hx;obtain ⟨a,b⟩:=(U 0).cal (Xs h2 h1) S S' h;unfold callR;dsimp only;rw [b,N.l];exact ⟨Ulf N U h2 _ (a.failu rfl _ _ _) _ O,Xta N.h.kind _ _ rfl⟩
theorem Xcg(N:Nk u t t')(U:∀ i,UnC u (Za t i) (ckX F t i) (ckX F' t' i))(ht:t.kind=38)(hx:exprB t=true)(h:RU u S S') :
  RU u (litR t (ckX F t) S).2 (litR t' (ckX F' t') S').2∧Hd (litR t (ckX F t) S).1 (litR t' (ckX F' t') S').1 :=
 ⟨h.unlit ((U 0).blk (sh38 ht hx).2 _ _ h.lit),Xta N.h.kind _ _ rfl⟩
theorem un_op(N:Nk u t t')(U:∀ i,UnC u (Za t i) (ckX F t i) (ckX F' t' i))(hx:exprB t=true)(hk:t.kind∈([29,31,32,33,35,36,37]:List Int))(h:RU u S S') :
 RU u (opR t (ckX F t) S).2 (opR t' (ckX F' t') S').2∧Hd (opR t (ckX F t) S).1 (opR t' (ckX F' t') S').1:=by
 have eu:unTy t'=unTy t:=by unfold unTy;rw [N.h.text]
 have A:=fun k=>(U 0).ex k S S' h;unfold opR;dsimp only [wantS];rw [N.h.kind,N.h.text,eu];cases h29:decide (t.kind=29)
 case true =>
  obtain ⟨hl,k0,k1⟩:=sh29 (Zch h29) hx;obtain ⟨a,b⟩:=A k0;obtain ⟨c,d⟩:=(U 1).ex k1 _ _ (a.failu (b:=decide (((ckX F t 0).ex S).1.ty.kind=5)) (b':=decide (((ckX F' t' 0).ex S').1.ty.kind=5)) (by rw [b.2.1]) (Za t 0).pos (Za t' 0).pos 7);exact ⟨c.failu (by rw [d.2.1]) _ _ _,Xta N.h.kind _ _ rfl⟩
 cases h31:decide (t.kind=31)
 case true =>
  obtain ⟨a,b⟩:=A (sh31 (Zch h31) hx).2.2;exact ⟨a.failu (by rw [b.2.1]) _ _ _,Xta N.h.kind _ _ rfl⟩
 cases h32:decide (t.kind=32)
 case true =>
  obtain ⟨_,hl,k0,k1⟩:=sh32 (Zch h32) hx;obtain ⟨a,b⟩:=A k0;obtain ⟨c,d⟩:=(U 1).ex k1 _ _ a;simp only [Zfh,Zeh];rw [b.2.1,d.2.1];exact ⟨c.failu rfl _ _ _,Xta N.h.kind _ _ rfl⟩
 cases h33:decide (t.kind=33)
 case true =>
  obtain ⟨a,b⟩:=A (sh33 (Zch h33) hx).2;exact ⟨a.failu (by rw [b.2.1]) _ _ _,Xta N.h.kind _ _ rfl⟩
 cases h37:decide (t.kind=37)
 case true =>
  obtain ⟨a,b⟩:=A (sh37 (Zch h37) hx).2;exact ⟨a.failu (by rw [b.2.1]) _ _ _,Xta N.h.kind _ _ rfl⟩
 cases h35:decide (t.kind=35)
 case true =>
  obtain ⟨a,b⟩:=A (sh35 (Zch h35) hx).2;exact ⟨a.failu (by rw [b.2.1]) _ _ _,Xta N.h.kind _ _ rfl⟩
 simp only [Zbh] at h29 h31 h32 h33 h37 h35;simp only [Ara,Aua,or_false] at hk;have h36:t.kind=36:=by omega
 rw [Jyg h36];obtain ⟨a,b⟩:=A (sh36 h36 hx).2;exact ⟨a.failu (by rw [b.2.1]) _ _ _,Xta N.h.kind _ _ rfl⟩
theorem Wng(H:FlR F F')(N:Nk u t t')(U:∀ i,UnC u (Za t i) (ckX F t i) (ckX F' t' i))(hx:exprB t=true)(h:RU u S S') :
 RU u (exR F t (ckX F t) S).2 (exR F' t' (ckX F' t') S').2∧Hd (exR F t (ckX F t) S).1 (exR F' t' (ckX F' t') S').1:=by
 have nil:∀ y,RU u S S'∧Hd (annT t [] y) (annT t' [] y):=fun y=>⟨h,Xta N.h.kind _ _ rfl⟩;unfold exR;rw [N.h.kind];cases h24:decide (t.kind=24);case true=>exact nil _
 cases h25:decide (t.kind=25);case true=>exact nil _
 cases h26:decide (t.kind=26);case true=>exact nil _
 cases h38:decide (t.kind=38);case true=>exact Xcg N U (Zch h38) hx h
 cases h30:decide (t.kind=30);case true=>exact Xbg N U (Zch h30) hx h
 cases h27:decide (t.kind=27)
 case true =>
  obtain ⟨b,c⟩:=Wqd H N.h N.n h;simp only [Zfh,Zeh];rw [b,c.2.1];refine ⟨?_,c⟩;cases (lookR F S t).2;exact h.fail _ _ _;exact h.failu rfl _ _ _
 cases h28:decide (t.kind=28)
 case true =>
  obtain ⟨a,b,c⟩:=Ype H N U (Zch h28) hx h;simp only [Zfh,Zeh];rw [b,c.2.1];exact ⟨a.failu rfl _ _ _,c⟩
 cases h34:decide (t.kind=34)
 case true =>
  simp only [Zfh,Zeh];rw [N.h.text,H.s2];exact ⟨h.failu rfl _ _ _,Xta N.h.kind _ _ rfl⟩
 simp only [Zbh] at h24 h25 h26 h38 h30 h27 h28 h34;exact un_op N U hx (Wod hx h24 h25 h26 h38 h30 h27 h28 h34) h
theorem Qhg(H:FlR F F')(N:Nk u t t')(U:∀ i,UnC u (Za t i) (ckX F t i) (ckX F' t' i))(hx:exprB t=true)(h:RU u S S') :
 RU u (calR F t (ckX F t) S).2 (calR F' t' (ckX F' t') S').2∧(calR F' t' (ckX F' t') S').1.2=(calR F t (ckX F t) S).1.2:=by
 have fin:RU u (failU (tyEqB (exR F t (ckX F t) S).1.ty tFunc) t.pos 7 (exR F t (ckX F t) S).2) (failU (tyEqB (exR F' t' (ckX F' t') S').1.ty tFunc) t'.pos 7 (exR F' t' (ckX F' t') S').2):=by
  obtain ⟨a,b⟩:=Wng H N U hx h;exact a.failu (by rw [b.2.1]) _ _ _
 unfold calR;dsimp only;rw [N.h.kind,N.h.text];cases h28:decide (t.kind=28);simp only [Bool.false_and,Zeh];cases h27:decide (t.kind=27);exact ⟨fin,rfl⟩;obtain ⟨b,c⟩:=Wqd H N.h N.n h;rw [b,c.2.2,H.p4,H.r4];simp only [Bool.true_and];cases ((lookR F S t).2&&decide ((lookR F S t).1.ref=3));exact ⟨fin,rfl⟩;exact ⟨h,rfl⟩;have ht:=Zch h28;obtain ⟨_,hl,k0⟩:=sh28 ht hx;obtain ⟨b,c⟩:=(U 0).rcv k0 S S' h;rw [Jxg (show ¬ t.kind=27 by omega),b];simp only [Bool.true_and,Bool.false_and,Zeh];cases hr:((ckX F t 0).rcv S).2;exact ⟨fin,rfl⟩
 have q:RU u (rcvX t (ckX F t) S).2 (rcvX t' (ckX F' t') S').2∧Hd (rcvX t (ckX F t) S).1 (rcvX t' (ckX F' t') S').1:=by
  unfold rcvX;rw [(N.q 0).kind];cases h3:decide ((Za t 0).kind=28);exact ⟨h,c⟩;obtain ⟨a,_,d⟩:=(U 0).mem (Zch h3) k0 S S' h;exact ⟨a,d⟩
 simp only [Zfh];rw [q.2.2.1];exact ⟨q.1.failu rfl _ _ _,rfl⟩
end
section
variable {u:List UInt8→Bool} {F F' t t':Nd} {S S':CSt}
theorem Umf(N:Nk u t t')(U:∀ i,UnC u (Za t i) (ckX F t i) (ckX F' t' i))(hb:t.kids.all stmtB=true)(h:RU u S S'):∀ i,i≤t.kids.length→RU u (stA (ckX F t) S i).2 (stA (ckX F' t') S' i).2
 | 0,_=>h
 | i+1,hi=>((U i).st (Xs hb O) _ _ (Umf N U hb h i O)).1
theorem Qig(N:Nk u t t')(U:∀ i,UnC u (Za t i) (ckX F t i) (ckX F' t' i))(hb:blockB t=true)(h:RU u S S'):RU u (stsR t (ckX F t) S).2 (stsR t' (ckX F' t') S').2:=by
 unfold stsR;rw [N.l];exact Umf N U (sh10 hb) h _ (Aba _)
theorem Xdg(h:RU u S S')(k:RU u (openS S) (openS S')→RU u (stsR t (ckX F t) (openS S)).2 (stsR t' (ckX F' t') (openS S')).2):RU u (blkR t (ckX F t) S).2 (blkR t' (ckX F' t') S').2 :=
 h.frame (Qtb (Ywa F t) h.sc) (Wsc (Xeb F t) S).result (Qtb (Ywa F' t') h.sc') (Wsc (Xeb F' t') S').result (k h.open).ee
theorem Vle{k k':Nd}{c c':Ck}(q:Hq k k')(C:exprB k=true→∀ S S',RU u S S'→RU u (c.ex S).2 (c'.ex S').2∧Hd (c.ex S).1 (c'.ex S').1)(hx:noneB k=true∨exprB k=true)(h:RU u S S'):RU u (condR k c S).2 (condR k' c' S').2:=by
 unfold condR;rw [q.kind];cases h1:decide (k.kind=9);obtain ⟨a,b⟩:=C (hx.resolve_left fun q=>Zdh h1 (Vy q).1) S S' h;exact a.failu (by rw [b.2.1]) _ _ _;exact h
theorem Wog(N:Nk u t t')(U:∀ i,UnC u (Za t i) (ckX F t i) (ckX F' t' i))(hb:ifB t=true)(h:RU u S S'):RU u (ifR t (ckX F t) S).2 (ifR t' (ckX F' t') S').2:=by
 obtain ⟨hl,k0,k1,k2⟩:=sh18 hb;have a:=(U 1).blk k1 _ _ (Vle (N.q 0) (U 0).ex (.inr k0) h);unfold ifR;dsimp only;rw [(N.q 2).kind];cases h3:decide ((Za t 2).kind=10);cases h4:decide ((Za t 2).kind=18);exact a;have h4:=Zch h4;refine (U 2).ifs ?_ _ _ a;rcases k2 with q|q|q;rw [Uu q] at h4;cases h4;exact q;rw [(Vy q).1] at h4;cases h4;have h3:=Zch h3;refine (U 2).blk ?_ _ _ a;rcases k2 with q|q|q;exact q;rw [show (Za t 2).kind=18 from Zch (Aea.1 q).1] at h3;cases h3;rw [(Vy q).1] at h3;cases h3
theorem Qjg(N:Nk u t t')(U:∀ i,UnC u (Za t i) (ckX F t i) (ckX F' t' i))(hb:Xga t=true)(f:Bool)(h:RU u S S'):RU u (casR t (ckX F t) f S).2 (casR t' (ckX F' t') f S').2:=by
 obtain ⟨hk,hl,hc,hb1⟩:=sh23 hb;refine h.frame (Zee (Ywa F t) f h.sc) (Xad (Xeb F t) f S).result (Zee (Ywa F' t') f h.sc') (Xad (Xeb F' t') f S').result ?_
 have a:RU u (bif decide ((Za t 0).kind=9) then (clnT (Za t 0),failU f t.pos 6 (openS S)) else ((ckX F t) 0).st (openS S)).2 (bif decide ((Za t' 0).kind=9) then (clnT (Za t' 0),failU f t'.pos 6 (openS S')) else ((ckX F' t') 0).st (openS S')).2∧NU u (bif decide ((Za t' 0).kind=9) then (clnT (Za t' 0),failU f t'.pos 6 (openS S')) else ((ckX F' t') 0).st (openS S')).2:=by
  rw [(N.q 0).kind];cases h3:decide ((Za t 0).kind=9);obtain ⟨p,q⟩:=(U 0).st ((Vrb hc).resolve_left (Zdh h3)) _ _ h.open;exact ⟨p,q (NU.open h)⟩;exact ⟨h.open.failu rfl _ _ _,(NU.open h).vs (Zla _ _ _ _)⟩
 exact ((U 1).sts hb1 _ _ a.1 a.2).ee
theorem Yqe(N:Nk u t t')(hb:t.kids.all Xga=true){i:Nat}(hi:i<t.kids.length):(Za (Za t' i) 0).kind=(Za (Za t i) 0).kind:=by
 have h:=(sh23 (Xs hb hi)).1;exact (((N.k i hi).node O).q 0).kind
theorem Vme(N:Nk u t t')(U:∀ i,UnC u (Za t i) (ckX F t i) (ckX F' t' i))(hb:t.kids.all Xga=true)(h:RU u S S'):∀ i,i≤t.kids.length→RU u (selA t (ckX F t) S i).2.2 (selA t' (ckX F' t') S' i).2.2∧(selA t' (ckX F' t') S' i).2.1=(selA t (ckX F t) S i).2.1
 | 0,_=>⟨h,rfl⟩
 | i+1,hi=>by
  obtain ⟨a,b⟩:=Vme N U hb h i O;rw [selA,selA];dsimp only;rw [b,Yqe N hb O];exact ⟨(U i).cas (Xs hb O) _ _ _ a,rfl⟩
theorem Qkg(H:FlR F F')(N:Nk u t t')(U:∀ i,UnC u (Za t i) (ckX F t i) (ckX F' t' i))(hb:varB t=true)(h:RU u S S'):RU u (varR F t (ckX F t) S).2 (varR F' t' (ckX F' t') S').2∧(NU u S'→NU u (varR F' t' (ckX F' t') S').2):=by
 obtain ⟨_,hl,k0,k1⟩:=sh6 hb;have l:=Qnc H (N.q 0) h;unfold varR;dsimp only;rw [(N.q 1).kind,(N.q 0).of,N.h.text];cases h2:decide ((Za t 1).kind=9);obtain ⟨a,b⟩:=(U 1).ex (k1.resolve_left fun q=>Zdh h2 (Vy q).1) _ _ l;simp only [Zeh];rw [b.2.1];exact ⟨(a.failu rfl _ _ _).decl N.n _ _ _,fun n=>NU.decl (n.vs ((((Jo F' _ S').trans ((Ywa F' t' 1).ex _ ((Jo F' _ S').sc h.sc'))).failu _ _ _))) N.n _ _⟩;exact ⟨l.decl N.n _ _ _,fun n=>NU.decl (n.vs (Jo F' _ S')) N.n _ _⟩
theorem Qlg(N:Nk u t t')(U:∀ i,UnC u (Za t i) (ckX F t i) (ckX F' t' i))(ht:t.kind=11)(hb:stmtB t=true)(h:RU u S S'):RU u (defR t (ckX F t) S).2 (defR t' (ckX F' t') S').2∧(NU u S'→NU u (defR t' (ckX F' t') S').2):=by
 obtain ⟨a,b⟩:=(U 0).ex (sh11 ht hb).2.2 _ _ h;unfold defR;dsimp only;rw [b.2.1,N.h.text];exact ⟨(a.failu rfl _ _ _).decl N.n _ _ _,fun n=>NU.decl (n.vs (((Ywa F' t' 0).ex S' h.sc').failu _ _ _)) N.n _ _⟩
theorem Qmg(N:Nk u t t')(U:∀ i,UnC u (Za t i) (ckX F t i) (ckX F' t' i))(ht:t.kind=12)(hb:stmtB t=true)(h:RU u S S'):RU u (asgR t (ckX F t) S).2 (asgR t' (ckX F' t') S').2:=by
 obtain ⟨hl,k0,k1⟩:=sh12 ht hb;obtain ⟨a,b⟩:=(U 0).ex k0 _ _ h;unfold asgR;dsimp only;rw [b.1,b.2.1,b.2.2];obtain ⟨c,d⟩:=(U 1).ex k1 _ _ (a.failu (b:=((decide (((ckX F t 0).ex S).1.kind=27) && !decide (((ckX F t 0).ex S).1.ref=3)) || decide (((ckX F t 0).ex S).1.kind=28)) || decide (((ckX F t 0).ex S).1.kind=29)) rfl (Za t 0).pos (Za t' 0).pos 7);rw [d.2.1];exact c.failu rfl _ _ _
theorem Qng(N:Nk u t t')(U:∀ i,UnC u (Za t i) (ckX F t i) (ckX F' t' i))(ht:t.kind=19)(hb:stmtB t=true)(h:RU u S S'):RU u (forR t (ckX F t) S).2 (forR t' (ckX F' t') S').2:=by
 obtain ⟨hl,k0,k1⟩:=sh19 ht hb;exact (U 1).blk k1 _ _ (Vle (N.q 0) (U 0).ex k0 h)
theorem Qog(N:Nk u t t')(U:∀ i,UnC u (Za t i) (ckX F t i) (ckX F' t' i))(ht:t.kind=20)(hb:stmtB t=true)(h:RU u S S'):RU u (retR t (ckX F t) S).2 (retR t' (ckX F' t') S').2:=by
 obtain ⟨h1,h2⟩:=sh20 ht hb;unfold retR;dsimp only;rw [N.l,h.result];cases h3:decide ((t.kids.length:Int)=1);exact h.failu rfl _ _ _;have h3:=Zch h3;obtain ⟨a,b⟩:=(U 0).ex (Xs h2 O) _ _ (h.failu (b:=!Baa true (!tyEqB S.result ty0)) rfl t.pos t'.pos 7);simp only [Zfh];rw [b.2.1,a.result];exact a.failu rfl _ _ _
theorem un_st(H:FlR F F')(N:Nk u t t')(U:∀ i,UnC u (Za t i) (ckX F t i) (ckX F' t' i))(hb:stmtB t=true)(h10:t.kind≠10)(h:RU u S S') :
 RU u (stR F t (ckX F t) S).2 (stR F' t' (ckX F' t') S').2∧(NU u S'→NU u (stR F' t' (ckX F' t') S').2):=by
 have X':=Ywa F' t';unfold stR;dsimp only;rw [N.h.kind,Jxg h10];simp only [Zeh];cases h18:decide (t.kind=18);case true=>exact ⟨Wog N U (sh18s (Zch h18) hb) h,fun n=>n.vs (Vtd X' h.sc')⟩
 cases h12:decide (t.kind=12);case true=>exact ⟨Qmg N U (Zch h12) hb h,fun n=>n.vs (Xdd X' h.sc')⟩
 cases h22:decide (t.kind=22)
 case true =>
  refine ⟨?_,fun n=>n.vs (Yxb X' h.sc' _)⟩;simp only [Zfh,Zeh];unfold selR;rw [N.l];exact (Vme N U (sh22 (Zch h22) hb) h _ (Aba _)).1
 cases h6:decide (t.kind=6);case true=>exact Qkg H N U (sh6s (Zch h6) hb) h
 cases h11:decide (t.kind=11);case true=>exact Qlg N U (Zch h11) hb h
 cases h19:decide (t.kind=19);case true=>exact ⟨Qng N U (Zch h19) hb h,fun n=>n.vs (Xed X' h.sc')⟩
 cases h20:decide (t.kind=20);case true=>exact ⟨Qog N U (Zch h20) hb h,fun n=>n.vs (Xfd X' h.sc')⟩
 have v:=(X' 0).ex S' h.sc';simp only [Zeh,wantS];cases h16:decide (t.kind=16)
 case true =>
  obtain ⟨hl,k0,k1⟩:=sh16 (Zch h16) hb;obtain ⟨a,b⟩:=(U 0).ex k0 _ _ h;obtain ⟨c,d⟩:=(U 1).ex k1 _ _ (a.failu (b:=decide (((ckX F t 0).ex S).1.ty.kind=6)) (b':=decide (((ckX F' t' 0).ex S').1.ty.kind=6)) (by rw [b.2.1]) (Za t 0).pos (Za t' 0).pos 7);exact ⟨c.failu (congrArg (fun y:Ty=>decide (y.kind=1)) d.2.1) _ _ _,fun n=>n.vs ((Vs.ex X' (v.failu _ _ _) h.sc' 1).failu _ _ _)⟩
 simp only [Zbh] at h18 h12 h22 h6 h11 h19 h20 h16;obtain ⟨hl,k0⟩:=Wpd hb h10 h18 h12 h22 h6 h11 h19 h20 h16;obtain ⟨a,b⟩:=(U 0).ex k0 _ _ h;cases decide (t.kind=17);case true=>exact ⟨a.failu (by rw [b.2.1]) _ _ _,fun n=>n.vs (v.failu _ _ _)⟩
 cases decide (t.kind=21);case true=>exact ⟨a.failu (by rw [b.2.1]) _ _ _,fun n=>n.vs (v.failu _ _ _)⟩
 exact ⟨a,fun n=>n.vs v⟩
theorem un_f(H:FlR F F')(N:Nk u t t')(U:∀ i,UnC u (Za t i) (ckX F t i) (ckX F' t' i))(h10:t.kind≠10):UnC u t (ckF F t (ckX F t)) (ckF F' t' (ckX F' t')) :=
 ⟨fun hx S S' h=>Wng H N U hx h,fun ht hx S S' h=>Ype H N U ht hx h,fun hx S S' h=>Qgg H N U hx h,fun hx S S' h=>Qhg H N U hx h,fun hb S S' h=>un_st H N U hb h10 h,
  fun hb S S' h=>absurd (Uu hb) h10,fun hb S S' h=>Wog N U hb h,fun hb S S' h=>absurd (Uu hb) h10,fun hb f S S' h=>Qjg N U hb f h⟩
theorem un_fb(h10:t.kind=10)(h10':t'.kind=10)(k:blockB t=true→∀ S S',RU u S S'→NU u S'→RU u (stsR t (ckX F t) S).2 (stsR t' (ckX F' t') S').2):UnC u t (ckF F t (ckX F t)) (ckF F' t' (ckX F' t')):=by
 have he:exprB t=false:=by
  cases h:exprB t;rfl;have hx:=(Aea.1 h).1;unfold expK at hx;rw [Qwa,h10] at hx;revert hx;decide
 have b:blockB t=true→∀ S S',RU u S S'→RU u (blkR t (ckX F t) S).2 (blkR t' (ckX F' t') S').2:=fun hb S S' h=>Xdg h fun h1=>k hb _ _ h1 (NU.open h);refine ⟨fun hx=>?_,fun ht=>?_,fun hx=>?_,fun hx=>?_,fun hb S S' h=>?_,b,fun hb=>?_,k,fun hb=>?_⟩;rw [he] at hx;cases hx;rw [h10] at ht;cases ht;rw [he] at hx;cases hx;rw [he] at hx;cases hx;show RU u (stR F t (ckX F t) S).2 (stR F' t' (ckX F' t') S').2∧(NU u S'→NU u (stR F' t' (ckX F' t') S').2);unfold stR;rw [Jyg h10,Jyg h10'];exact ⟨b (sh10s h10 hb) S S' h,fun n=>n.vs (Qtb (Ywa F' t') h.sc')⟩;have:=Zch (Aea.1 hb).1;omega;have:=(sh23 hb).1;omega
theorem un_0(u:List UInt8→Bool):UnC u nd0 ck0 ck0:=by
 refine ⟨fun h=>?_,fun _ h=>?_,fun h=>?_,fun h=>?_,fun h=>?_,fun h=>?_,fun h=>?_,fun h=>?_,fun h=>?_⟩;exact absurd h Od;exact absurd h Od;exact absurd h Od;exact absurd h Od;exact absurd h Od;exact absurd h Od;exact absurd h Od;exact absurd h Od;exact absurd h Od
theorem Zrc{F t:Nd}{i:Nat}(h:¬ i<t.kids.length):ckX F t i=ck0:=by rw [ckX];simp only [Ada,Bna];rw [Boa O];rfl
theorem un_t(H:FlR F F'):∀ t t',InR u t t'→UnC u t (ckT F t) (ckT F' t'):=by
 refine Nd.ind fun t ih t' h=>?_;rw [Vm,Vm F']
 have U:∀ {N:Nk u t t'} i,UnC u (Za t i) (ckX F t i) (ckX F' t' i):=fun {N} i=>by
  by_cases hi:i<t.kids.length;rw [Xx hi,Xx (by rw [N.l];exact hi)];have h1:=N.k i hi;rw [Yj hi] at h1 ⊢;exact ih _ (Aha hi) _ h1;rw [Zrc hi,Zrc (by rw [N.l];exact hi),Jca hi];exact un_0 u
 by_cases h10:t.kind=10;refine un_fb h10 (h.hq.kind.trans h10) fun hb S S' hr hn=>?_
 cases h with
 | nd hq hu hl hk=>exact Qig ⟨hq,hu,hl,hk⟩ (U (N:=⟨hq,hu,hl,hk⟩)) hb hr
 | bl hq hu ht hd hl hk =>
  unfold stsR;rw [hl];obtain ⟨d1,d2,d3,d4,d5⟩:=hd
  have e1:(stA (ckX F' t') S' 1).2=declS (Za t' 0).text (ofF (Za (Za t' 0) 0)).1 (Za t' 0).pos S':=by
   show ((ckX F' t' 0).st S').2=_;rw [Xx O,Vm];show (stR F' (Za t' 0) (ckX F' (Za t' 0)) S').2=_;unfold stR;rw [d1];show (varR F' (Za t' 0) _ S').2=_;unfold varR localS pointerS;rw [d3,d4,d5];rfl
  have q:∀ i,i≤t.kids.length→RU u (stA (ckX F t) S i).2 (stA (ckX F' t') S' (i+1)).2:=by
   intro i
   induction i with
   | zero=>intro _;rw [e1];exact hr.decl1 hn d2 _ _
   | succ i ihq =>
    intro hi;have a:=ihq O;have k:=hk i O;have b:=ih t.kids[i] (Aha O) (Za t' (i+1)) (by rw [← Yj];exact k);have hs:=Xs (sh10 hb) (show i<t.kids.length by omega);rw [Yj (show i<t.kids.length by omega)] at hs;have c:=(b.st hs _ _ a).1;show RU u ((ckX F t i).st _).2 ((ckX F' t' (i+1)).st _).2;rw [Xx (show i<t.kids.length by omega),Xx (show i+1<t'.kids.length by omega),Yj (show i<t.kids.length by omega)];exact c
  exact q _ (Aba _)
 exact un_f H (h.node h10) (U (N:=h.node h10)) h10
theorem Jke{t t':Nd}(h1:t'.kind=t.kind)(h2:(Za t' 0).kind=(Za t 0).kind)(h3:(Za t' 2).kind=(Za t 2).kind)(h4:t'.kids.map endT=t.kids.map endT):endT t'=endT t:=by
 rw [Zda,Zda t,h4];unfold endP;rw [h1,h2,h3]
theorem Qpg:∀ t t',InR u t t'→endT t'=endT t:=by
 refine Nd.ind fun t ih t' h=>?_
 cases h with
 | nd hq hu hl hk =>
  have N:Nk u t t':=⟨hq,hu,hl,hk⟩;refine Jke hq.kind (N.q 0).kind (N.q 2).kind (Bpa (by rw [Aca,Aca,hl]) fun i h1 h2=>?_);rw [Ata,Ata];have hi:i<t.kids.length:=by rwa [Aca] at h2
  have k:=hk i hi;rw [Yj hi,Yj (hl▸hi)] at k;exact ih _ (Aha hi) _ k
 | bl hq hu ht hd hl hk =>
  have e:(t'.kids.map endT).getLast?.getD (false,false)=(t.kids.map endT).getLast?.getD (false,false)∨((t'.kids.map endT).getLast?.getD (false,false)).1=((t.kids.map endT).getLast?.getD (false,false)).1:=by
   rcases Nat.eq_zero_or_pos t.kids.length with h0|h0;right;have h1:t'.kids.length=1:=by omega
   have e1:=Uef h1;rw [e1,Bta.1 h0];show (endT (Za t' 0)).1=false;rw [Zda];unfold endP;rw [hd.1];rfl;left;rw [List.getLast?_map,List.getLast?_map,Cea,Cea,Bxa (show t'.kids.length-1<t'.kids.length by omega),Bxa (show t.kids.length-1<t.kids.length by omega)];have k:=hk (t.kids.length-1) O;have e1:t.kids.length-1+1=t'.kids.length-1:=by omega
   rw [e1,Yj (show t.kids.length-1<t.kids.length by omega),Yj (show t'.kids.length-1<t'.kids.length by omega)] at k;show endT _=endT _;exact ih _ (Aha _) _ k
  have e:((t'.kids.map endT).getLast?.getD (false,false)).1=((t.kids.map endT).getLast?.getD (false,false)).1:=e.elim (congrArg Prod.fst) id;rw [Zda,Zda t];unfold endP;rw [hq.kind,ht];show (((t'.kids.map endT).getLast?.getD (false,false)).1,((t'.kids.map endT).getLast?.getD (false,false)).1)=_;rw [e];rfl
/-! declarations -/
theorem Vne(H:FlR F F')(N:Nk u t t')(hp:∀ f∈t.kids,f.kind=3)(h:RU u S S')(hn:NU u S'):∀ i,i≤t.kids.length→RU u (parA F t S i).2 (parA F' t' S' i).2∧NU u (parA F' t' S' i).2
 | 0,_=>⟨h,hn⟩
 | i+1,hi=>by
  obtain ⟨a,b⟩:=Vne H N hp h hn i O;have k:=N.k i O;have hk:(Za t i).kind=3:=hp _ (by rw [Yj (show i<t.kids.length by omega)];exact Aha _);have M:=k.node O;rw [parA,parA];dsimp only;rw [M.h.text,(M.q 0).of];exact ⟨Qnc H (M.q 0) (a.decl M.n _ _ _),(NU.decl b M.n _ _).vs (Jo F' _ _)⟩
theorem Qqg(S:CSt):Sc (funS0 S):=fun v hv=>by cases hv
theorem Jle(a e:Int)(S:CSt)(r:Ty):failS a e { S with result:=r } = { failS a e S with result:=r }:=by
 unfold failS;show (bif decide (S.ee=0) then _ else _)=_;cases decide (S.ee=0) <;> rfl
theorem Xpc(b:Bool)(a e:Int)(S:CSt)(r:Ty):failU b a e { S with result:=r } = { failU b a e S with result:=r }:=by
 cases b;exact Jle a e S r;rfl
theorem Qpd(F n:Nd)(S:CSt)(r:Ty):pointerS F n { S with result:=r } = { pointerS F n S with result:=r }:=by
 unfold pointerS;cases decide (n.kind=8);rfl;exact Xpc _ _ _ S r
theorem Jme(F n:Nd)(S:CSt)(r:Ty):localS F n { S with result:=r } = { localS F n S with result:=r }:=by
 unfold localS;rw [Qpd,Xpc]
theorem Unf(s:List UInt8)(y:Ty)(a:Int)(S:CSt)(r:Ty):declS s y a { S with result:=r } = { declS s y a S with result:=r }:=by
 have e:=Xpc (!dupV S s) a 6 S r;unfold declS;show ({ failU (!dupV S s) a 6 { S with result:=r } with next:=_,vars:=_ }:CSt)=_;rw [e];rfl
theorem Qqd(F p:Nd)(S:CSt)(r:Ty):∀ i,(parA F p { S with result:=r } i).2 = { (parA F p S i).2 with result:=r }
 | 0=>rfl
 | i+1=>by
  rw [parA,parA];dsimp only;rw [Qqd F p S r i,Unf,Jme]
theorem Qrg(H:FlR F F'){n n':Nd}(N:InR u n n')(hk:n.kind=4)(hp:permF n=true)(he:S'.ee=S.ee):(funR F' n' S').2.ee=(funR F n S).2.ee:=by
 obtain ⟨hl,⟨p1,p2⟩,hr,b1,b2⟩:=pf4 hk hp;have M:=N.node O;have h0:RU u { funS0 S with result:=ty0 } { funS0 S' with result:=ty0 }:=⟨rfl,rfl,rfl,he,Qqg S,Qqg S'⟩;have Np:=(M.k 0 O).node O;have e1:∀ F n S,funS1 F n S=(parA F (Za n 0) { funS0 S with result:=ty0 } (Za n 0).kids.length).2:=fun F n S=>(Qqd F (Za n 0) (funS0 S) ty0 (Za n 0).kids.length).symm;obtain ⟨a,b⟩:=Vne H Np (fun f hf=>(Yna (.inr p1) p2 f hf).1) h0 (fun v hv=>by cases hv) _ (Aba _);have s1:RU u (funS1 F n S) (funS1 F' n' S'):=by rw [e1,e1,Np.l];exact a
 have n1:NU u (funS1 F' n' S'):=by rw [e1,Np.l];exact b
 have s2:RU u (funS2 F n S) (funS2 F' n' S')∧NU u (funS2 F' n' S'):=by
  unfold funS2;rw [(M.q 1).kind,(M.q 1).of];cases decide ((Za n 1).kind=9);have l:=Qnc H (M.q 1) s1;exact ⟨⟨l.vars,l.scope,rfl,l.ee,l.sc,l.sc'⟩,(n1.vs (Jo F' (Za n' 1) _):NU u (localS F' (Za n' 1) (funS1 F' n' S')))⟩;exact ⟨s1,n1⟩
 have k2:=M.k 2 O;have c:=((un_t H _ _ k2).sts (by unfold blockB;rw [b1,b2];rfl) _ _ s2.1 s2.2).ee;have ends:endsL (Za n' 2).kids=endsL (Za n 2).kids:=by rw [← Ywc,← Ywc,Qpg _ _ k2]
 unfold funR;dsimp only;rw [ends,(M.q 1).kind];cases (decide ((Za n 1).kind=9) || endsL (Za n 2).kids);show (failS _ 7 _).ee=(failS _ 7 _).ee;rw [Zma,Zma,c];exact c
theorem Qrd{b b':Bool}(hb:b'=b){a a' e:Int}(he:S'.ee=S.ee):(failU b' a' e S').ee=(failU b a e S).ee:=by
 subst hb;cases b';show (failS a' e S').ee=(failS a e S).ee;rw [Zma,Zma,he];exact he
theorem Qoc(H:FlR F F'){k k':Nd}(q:Hq k k')(he:S'.ee=S.ee):(pointerS F' k' S').ee=(pointerS F k S).ee:=by
 unfold pointerS;rw [q.kind,q.text];cases decide (k.kind=8);exact he;exact Qrd (by rw [H.s2]) he
theorem Voe(n:Nd)(i:Nat):dupAt n i=((n.kids.map Nd.text).take i).any fun s=>decide (s=(Za n i).text):=by
 unfold dupAt;rw [← List.map_take,Bga];rfl
theorem Nk.txt{n n':Nd}(N:Nk u n n'):n'.kids.map Nd.text=n.kids.map Nd.text:=by
 refine Bpa (by rw [Aca,Aca,N.l]) fun i h1 h2=>?_;have hi:i<n.kids.length:=by rwa [Aca] at h2
 have h:=(N.q i).text;rw [Yj hi,Yj (N.l▸hi)] at h;rw [Ata,Ata,h]
theorem Nk.dup{n n':Nd}(N:Nk u n n')(i:Nat):dupAt n' i=dupAt n i:=by rw [Voe,Voe,N.txt,(N.q i).text]
theorem Uof(H:FlR F F'){n n':Nd}(N:Nk u n n')(hp:∀ f∈n.kids,f.kind=3)(he:S'.ee=S.ee):∀ i,i≤n.kids.length→(strA F' n' S' i).ee=(strA F n S i).ee
 | 0,_=>he
 | i+1,hi=>by
  have k:=N.k i O;have hk:(Za n i).kind=3:=hp _ (by rw [Yj (show i<n.kids.length by omega)];exact Aha _);rw [strA,strA];exact Qoc H ((k.node O).q 0) (Qrd (by rw [N.dup]) (Uof H N hp he i O))
theorem Qsg(H:FlR F F'){n n':Nd}(N:InR u n n')(hk:n.kind=2∨n.kind=6∨n.kind=4)(hp:permF n=true)(he:S'.ee=S.ee):(dclR F' n' S').2.ee=(dclR F n S).2.ee:=by
 have M:=N.node O;unfold dclR;rw [M.h.kind];cases h2:decide (n.kind=2);case true=>rw [M.l];exact Uof H M (fun f hf=>(Yna (.inl (Zch h2)) hp f hf).1) he _ (Aba _)
 cases h6:decide (n.kind=6);case true=>exact Qoc H (M.q 0) he
 cases h4:decide (n.kind=4);case true=>exact Qrg H N (Zch h4) hp he
 exact he
theorem Vpe(H:FlR F F')(he:S'.ee=S.ee)(h4:decide ((findD F' 4 [109,97,105,110]).2<0)=decide ((findD F 4 [109,97,105,110]).2<0)):(mainS F' S').ee=(mainS F S).ee:=by
 have e:=congrArg List.length (H.p4 [109,97,105,110]);rw [Aca,Aca] at e;unfold mainS;rw [h4,e,H.k4];cases decide ((findD F 4 [109,97,105,110]).2<0);cases (decide (0<((Za (findD F 4 [109,97,105,110]).1 0).kids.length:Int)) || !decide ((Za (findD F 4 [109,97,105,110]).1 1).kind=9));exact he;show (failS _ 7 _).ee=(failS _ 7 _).ee;rw [Zma,Zma,he];show (failS _ 5 _).ee=(failS _ 5 _).ee;rw [Zma,Zma,he]
/-! what is found in files that differ by unused variables -/
theorem Nk.at{n n':Nd}(N:Nk u n n'):∀ i (h:i<n.kids.length) (h':i<n'.kids.length),InR u n.kids[i] n'.kids[i]:=fun i h h'=>by
 have:=N.k i h;rwa [Yj h,Yj h'] at this
theorem Qtg{F:Nd}(hv:validB F=true):(refCheck F).2.2=(refS F).ee:=by
 by_cases h:(refS F).ee=0;unfold refCheck;rw [hv,Jyg h,h];rfl;unfold refCheck;rw [hv,Jxg h];rfl
end
def noU:List UInt8→Bool:=fun _=>false
theorem Xeg:∀ t,InR noU t t:=by
 refine Nd.ind fun t ih=>.nd (Hq.refl t) J J fun i hi=>?_;rw [Yj hi];exact ih _ (Aha hi)
theorem Qsd(F:Nd):FlR F F:=⟨fun _=>rfl,fun _=>rfl,fun _=>rfl,fun _=>rfl,fun _=>rfl,fun _=>rfl,fun _=>rfl,fun _=>rfl⟩
def Dst(l:List Nd):Prop:=(l.map Nd.text).Nodup
structure Prm (F F':Nd):Prop where
  kind:F'.kind=F.kind
  text:F'.text=F.text
  p:F'.kids.Perm F.kids
theorem Prm.symm{F F':Nd}(h:Prm F F'):Prm F' F:=⟨h.kind.symm,h.text.symm,h.p.symm⟩
theorem Prm.dst{F F':Nd}(h:Prm F F')(hn:Dst F.kids):Dst F'.kids:=((h.p.map Nd.text).nodup_iff).2 hn
theorem dup_dst{F:Nd}:(∀ i,i<F.kids.length→dupAt F i=false)↔Dst F.kids:=by
 have e:∀ i (hi:i<F.kids.length),dupAt F i=false↔∀ j (hj:j<F.kids.length),j<i→F.kids[j].text≠F.kids[i].text:=fun i hi=>by
  unfold dupAt;rw [Bua,Yj hi];constructor;intro h j hj hji he;exact h _ (Cfa.2 ⟨j,O,rfl⟩) (by simpa using he);intro h x hx;obtain ⟨j,hj,rfl⟩:=Cfa.1 hx;have:=h j O O;simpa using this
 unfold Dst List.Nodup;rw [List.pairwise_map,List.pairwise_iff_getElem];constructor;intro h i j hi hj hij;exact (e j hj).1 (h j hj) i hi hij;intro h i hi;exact (e i hi).2 fun j hj hji=>h j i hj hi hji
theorem Wpg{F:Nd}{S:CSt}:∀ {i:Nat},(namA F S i).ee=0→S.ee=0∧∀ j,j<i→dupAt F j=false
 | 0,h=>⟨h,fun j hj=>absurd hj (Nat.not_lt_zero j)⟩
 | i+1,h=>by
  obtain ⟨h1,h2⟩:=fu (b:=!dupAt F i) h;obtain ⟨h3,h4⟩:=Wpg h2;refine ⟨h3,fun j hj=>?_⟩;by_cases q:j=i;rw [q];simpa using h1;exact h4 j O
theorem Wrd{F:Nd}{S:CSt}:∀ {i:Nat},(∀ j,j<i→dupAt F j=false)→namA F S i=S
 | 0,_=>rfl
 | i+1,h=>by
  show failU (!dupAt F i) _ 6 (namA F S i)=S;rw [h i O,Wrd fun j hj=>h j O];rfl
structure Acc (F:Nd):Prop where
  dst:Dst F.kids
  dcl:∀ d∈F.kids,(dclR F d rs0).2.ee=0
  mn:(mainS F rs0).ee=0
theorem Qug{F:Nd}(hv:validB F=true)(h:(refS F).ee=0):Acc F:=by
 unfold refS at h;have h1:=(Xqe F _).z h
 have dz:∀ i,i≤F.kids.length→(dclA F (namA F rs0 F.kids.length) i).2.ee=0:=fun i hi=>by
  have q:=Xkd F (namA F rs0 F.kids.length) i (F.kids.length-i);rw [show i+(F.kids.length-i)=F.kids.length by omega] at q;exact q.z h1
 have h0:=Wpg (dz 0 (Nat.zero_le _));refine ⟨dup_dst.1 h0.2,fun d hd=>?_,?_⟩;obtain ⟨i,hi,rfl⟩:=List.getElem_of_mem hd;have q:=dz (i+1) hi;have hh:=Zqd hv _ (Aha hi);rw [Qsg (Qsd F) (Xeg _) hh.1 hh.2.2 (S:=(dclA F (namA F rs0 F.kids.length) i).2) (S':=rs0) (dz i O).symm];rw [← Yj hi];exact q;rw [Vpe (Qsd F) (S':=rs0) (S:=(dclA F (namA F rs0 F.kids.length) F.kids.length).2) h1.symm rfl];exact h
def rnN:List UInt8:=[114,101,110,97,109,101,100]
def renN(f s:List UInt8):List UInt8:=bif decide (s=f) then rnN else s
def dclB(t:Nd):Bool:=((decide (t.kind=27) || decide (t.kind=6)) || decide (t.kind=11)) || decide (t.kind=3)
def renL(f:List UInt8)(t:Nd):List UInt8:=bif dclB t&&(decide (t.ref=1)&&decide (t.text=f)) then rnN else t.text
def renT(f:List UInt8)(t:Nd):Nd:=para (fun t l=>.mk t.kind (renL f t) t.num t.pos l t.ty t.ref t.up) t
theorem Qr(f:List UInt8)(t:Nd):renT f t = .mk t.kind (renL f t) t.num t.pos (t.kids.map (renT f)) t.ty t.ref t.up:=Zca _ t
section
variable {f:List UInt8} {t:Nd}
theorem Wm(t:Nd):(renT f t).kind=t.kind:=by rw [Qr];rfl
theorem Upf(t:Nd):(renT f t).num=t.num:=by rw [Qr];rfl
theorem Wsd(t:Nd):(renT f t).pos=t.pos:=by rw [Qr];rfl
theorem Qo(t:Nd):(renT f t).ty=t.ty:=by rw [Qr];rfl
theorem Qpc(t:Nd):(renT f t).ref=t.ref:=by rw [Qr];rfl
theorem Zfa(t:Nd):(renT f t).kids=t.kids.map (renT f):=by rw [Qr];rfl
theorem Zsc(t:Nd):(renT f t).text=renL f t:=by rw [Qr];rfl
theorem Wtd(t:Nd):(renT f t).kids.length=t.kids.length:=by rw [Zfa,Aca]
theorem Jsa{t:Nd}(h:t.ref≠1):renL f t=t.text:=by unfold renL;rw [Jxg h];cases dclB t <;> rfl
theorem Ztc{t:Nd}(h:t.ref=1)(hd:dclB t=true):renL f t=renN f t.text:=by unfold renL renN;rw [Jyg h,hd];rfl
theorem Uqf:renT f nd0=nd0:=by rw [Qr,Jsa Od];rfl
theorem Xua(t:Nd)(i:Nat):Za (renT f t) i=renT f (Za t i):=by
 unfold Za;rw [Zfa];exact Vfb (renT f) t.kids i nd0 nd0 Uqf
theorem Xfg(t:Nd):numS (renT f t)=numS t:=by
 unfold numS Wj;rw [Wm,Upf]
theorem Qx:∀ t,renT f (plainT t)=plainT t:=by
 refine Nd.ind fun t ih=>?_;have e:(plainT t).ref=0:=by rw [Vb];rfl
 rw [Qr,Jsa (by rw [e];decide),Ja,Ala,Ana (f:=renT f ∘ plainT) (g:=plainT) fun k hk=>ih k hk,Vb];rfl
theorem Qtd:∀ t,count (renT f t)=count t:=by
 refine Nd.ind fun t ih=>?_;rw [Qm,Zfa,Ala,Qm t];congr 2;exact Ana fun k hk=>ih k hk
theorem Urf:∀ t,depthN (renT f t)=depthN t:=by
 refine Nd.ind fun t ih=>?_;rw [Uya,Uya t,Zfa,Ala];congr 2;exact Ana fun k hk=>ih k hk
theorem Vqe(t:Nd)(n:Int):lenK (renT f t) n=lenK t n:=by rw [lenK,lenK,Wtd]
theorem Usf(t:Nd)(q:Int→Bool):everyB (renT f t) q=everyB t q:=by
 rw [everyB,Zfa,List.all_map,everyB];congr 1;funext k;show q (renT f k).kind=q k.kind;rw [Wm]
theorem Utf(t:Nd)(qs:List (Int→Bool)):kidsB (renT f t) qs=kidsB t qs:=by
 rw [kidsB,Wtd,kidsB];congr 2;funext i;rw [Xua,Wm]
theorem Xgg(t:Nd):commB (renT f t)=commB t:=by unfold commB;rw [Wm,Wtd,Xua,Xua,Wm,Wm]
theorem Yre(t:Nd):Vu (renT f t)=Vu t:=by rw [Vu,Vu,Wm,Vqe,Xua,Wm]
theorem Uuf(t:Nd):(renT f t).kids.any Vu=t.kids.any Vu:=by
 rw [Zfa,Bga];congr 1;funext k;exact Yre k
theorem Xhg(t:Nd):formB (renT f t)=formB t:=by
 unfold formB;simp only [Wm,Uuf,Usf,Utf,Vqe,Xgg,Xua,Wtd,Upf]
theorem Uvf{t:Nd}(h:textB' t=true):textB' (renT f t)=true:=by
 unfold textB' at h ⊢;rw [Wm,Zsc];unfold renL;cases hd:dclB t&&(decide (t.ref=1)&&decide (t.text=f));exact h
 have hk:anyK [2,3,4,6,11,28,27,34,8] t.kind=true:=by
  have:=(Aea.1 hd).1;unfold dclB at this;simp only [Bool.or_eq_true,Zah] at this;rw [Qwa];simp only [Ara,Aua,or_false];omega
 rw [hk];show nameB rnN=true;decide +kernel
theorem Xig:∀ t,permF t=true→permF (renT f t)=true:=by
 refine Nd.ind fun t ih h=>?_;rw [Uo,locB] at h ⊢;rw [Aga,Aga] at h ⊢;rw [Xhg,Zfa,List.all_map];exact ⟨⟨Uvf h.1.1,h.1.2⟩,Aia.2 fun k hk=>ih k hk (Aia.1 h.2 k hk)⟩
theorem Uwf{t:Nd}(h:validB t=true):validB (renT f t)=true:=by
 unfold validB permB at h ⊢;rw [Aga,Aga] at h ⊢;rw [Wm,Urf];exact ⟨h.1,Xig _ h.2.1,h.2.2⟩
theorem Qvg:∀ t,endT (renT f t)=endT t:=by
 refine Nd.ind fun t ih=>?_;rw [Zda,Zda t,Zfa,Ala,Ana (f:=endT ∘ renT f) (g:=endT) fun k hk=>ih k hk];unfold endP;rw [Wm,Xua,Xua,Wm,Wm]
end
/-! states -/
def renV(f:List UInt8)(v:Vr):Vr:={ v with name:=renN f v.name }
def renS(f:List UInt8)(S:CSt):CSt:={ S with vars:=S.vars.map (renV f) }
structure Vn (S:CSt):Prop where
  n:∀ v∈S.vars,v.name≠rnN
  s:Sc S
section
variable {f:List UInt8} {S T:CSt}
theorem Vn.vs(h:Vn S)(k:Vs S T):Vn T:=⟨fun v hv=>h.n v (k.vars▸hv),k.sc h.s⟩
theorem Qud{s s':List UInt8}(h:s≠rnN)(h':s'≠rnN):renN f s=renN f s'↔s=s':=by
 refine ⟨fun e=>?_,fun e=>by rw [e]⟩;unfold renN at e;by_cases h1:s=f <;> by_cases h2:s'=f
 rw [h1,h2];rw [Jyg h1,Jxg h2] at e;exact absurd e.symm h';rw [Jxg h1,Jyg h2] at e;exact absurd e h;rw [Jxg h1,Jxg h2] at e;exact e
theorem Xjg(a e:Int)(S:CSt):failS a e (renS f S)=renS f (failS a e S):=by
 unfold failS;show (bif decide (S.ee=0) then _ else _)=_;cases decide (S.ee=0) <;> rfl
theorem Ycb(b:Bool)(a e:Int)(S:CSt):failU b a e (renS f S)=renS f (failU b a e S):=by
 cases b;exact Xjg a e S;rfl
theorem Xkg(sc:Nat)(l:List Vr):dropV sc (l.map (renV f))=(dropV sc l).map (renV f):=by
 unfold dropV;rw [← Bha,List.dropWhile_map,← Bha];rfl
theorem Vre(S:CSt):shutS (renS f S)=renS f (shutS S):=by
 unfold shutS renS;dsimp only;rw [Xkg]
theorem Qwg(h:Vn S){s:List UInt8}(hs:s≠rnN):dupV (renS f S) (renN f s)=dupV S s:=by
 unfold dupV;show ((S.vars.map (renV f)).any _)=_;rw [Bga,Bool.eq_iff_iff,List.any_eq_true,List.any_eq_true];constructor;rintro ⟨v,hv,hq⟩;refine ⟨v,hv,?_⟩;have hq:(decide (v.scope=S.scope)&&decide (renN f v.name=renN f s))=true:=hq;rw [Aga,Zah,Zah] at hq ⊢;exact ⟨hq.1,(Qud (h.n v hv) hs).1 hq.2⟩;rintro ⟨v,hv,hq⟩;refine ⟨v,hv,?_⟩;show (decide (v.scope=S.scope)&&decide (renN f v.name=renN f s))=true;rw [Aga,Zah,Zah] at hq ⊢;exact ⟨hq.1,by rw [hq.2]⟩
theorem Wud(h:Vn S){s:List UInt8}(hs:s≠rnN)(y:Ty)(a:Int):declS (renN f s) y a (renS f S)=renS f (declS s y a S):=by
 unfold declS;rw [Qwg h hs,Ycb];generalize failU (!dupV S s) a 6 S=Q;unfold renS;dsimp only;rw [Afa];rfl
theorem Vn.decl(h:Vn S){s:List UInt8}(hs:s≠rnN)(y:Ty)(a:Int):Vn (declS s y a S):=⟨fun v hv=>by
 have hv:v∈S.vars++[⟨s,y,declN S,S.level,S.scope⟩]:=hv;rcases List.mem_append.1 hv with q|q;exact h.n v q;rw [Bea.1 q];exact hs,(Xba s y a S).sc h.s⟩
theorem Xlg(h:Vn S){s:List UInt8}(hs:s≠rnN):findV (renS f S).vars (renN f s)=(findV S.vars s).map (renV f):=by
 unfold findV;show ((S.vars.map (renV f)).reverse.find? _)=_;rw [← Bha,Bva];congr 1
 have:∀ l:List Vr,(∀ v∈l,v.name≠rnN)→l.find? ((fun v=>decide (v.name=renN f s)) ∘ renV f)=l.find? fun v=>decide (v.name=s):=by
  intro l
  induction l with
  | nil=>intro _;rfl
  | cons v l ih =>
   intro hl
   have e:((fun v=>decide (v.name=renN f s)) ∘ renV f) v=decide (v.name=s):=by
    show decide (renN f v.name=renN f s)=_;rw [decide_eq_decide];exact Qud (hl v Aqa) hs
   rw [Bqa,Bqa,e,ih fun v hv=>hl v (Bda _ hv)]
 exact this _ fun v hv=>h.n v (List.mem_reverse.1 hv)
theorem Xmg(h:Vn S){s:List UInt8}(hs:s≠rnN)(hf:findV S.vars s=none):findV (renS f S).vars s=none:=by
 unfold findV at hf ⊢;show ((S.vars.map (renV f)).reverse.find? _)=none;rw [← Bha,Bva,Option.map_eq_none_iff];rw [Cca] at hf ⊢;intro v hv hq;have hq:decide (renN f v.name=s)=true:=hq;have hq:=Zch hq;unfold renN at hq;have hv':=hf v hv;simp only [Zah] at hv';by_cases e:v.name=f;rw [Jyg e] at hq;exact hs hq.symm;rw [Jxg e] at hq;exact hv' hq
end
structure FlX (F F':Nd):Prop where
  r:FlR F F'
  n6:∀ s,(findD F' 6 s).2=(findD F 6 s).2
  n4:∀ s,(findD F' 4 s).2=(findD F 4 s).2
def Tn(t:Nd):Prop:=∀ y∈listN t,y.text≠rnN
theorem Tn.self{t:Nd}(h:Tn t):t.text≠rnN:=h t (by rw [Zsb];exact Aqa)
theorem Tn.kid{t:Nd}(h:Tn t)(i:Nat):Tn (Za t i):=by
 by_cases hi:i<t.kids.length;rw [Yj hi];exact fun y hy=>h y (by rw [Zsb];exact Bda _ (List.mem_flatMap.2 ⟨_,Aha hi,hy⟩));rw [Jca hi];intro y hy;have e:listN nd0=[nd0]:=by rw [Zsb];rfl
 rw [e] at hy;rw [Bea.1 hy];decide
structure Tw (f:List UInt8) (t:Nd) (ks:List Nd) (t':Nd):Prop where
  kind:t'.kind=t.kind
  pos:t'.pos=t.pos
  num:numS t'=numS t
  kids:t'.kids=ks.map (renT f)
section
variable {f:List UInt8} {F F' t t':Nd} {ks:List Nd} {S:CSt}
theorem Qvd(t:Nd)(ks:List Nd)(y:Ty):numS (annT t ks y)=numS t:=by
 unfold numS;rw [show Wj (annT t ks y)=Wj t from rfl];cases h:Wj t;rfl;show (bif Wj t then t.num else 0)=_;rw [h]
theorem Zga(t:Nd)(ks:List Nd)(y:Ty):Tw f t ks (renT f (annT t ks y))∧(renT f (annT t ks y)).text=t.text :=
 ⟨⟨Wm _,Wsd _,by rw [Xfg,Qvd],Zfa _⟩,by rw [Zsc,Jsa (by show (0:Int)≠1;decide)];rfl⟩
theorem Tw.len(h:Tw f t ks t'):t'.kids.length=ks.length:=by rw [h.kids,Aca]
theorem Tw.kid(h:Tw f t ks t')(i:Nat):Za t' i=renT f (ks.getD i nd0):=by
 unfold Za;rw [h.kids];exact Vfb (renT f) ks i nd0 nd0 Uqf
theorem Tw.x(h:Tw f t ks t'){i:Nat}(hi:i<ks.length):ckX F' t' i=ckT F' (renT f (ks.getD i nd0)):=by
 rw [Xx (by rw [h.len];exact hi),h.kid]
theorem Tw.ann(h:Tw f t ks t')(ht:t'.text=t.text)(ls:List Nd)(y:Ty):annT t' (ls.map (renT f)) y=renT f (annT t ls y):=by
 rw [Qr,Jsa (by show (0:Int)≠1;decide)];unfold annT;rw [h.kind,ht,h.num,h.pos];rfl
theorem Wvd(k:Nd):renT f (clnT k)=clnT k:=by rw [Qr,Jsa (by show (0:Int)≠1;decide)];rfl
theorem Wxc(k:Nd):clnT (clnT k)=clnT k:=by
 show annT (annT k [] ty0) [] ty0=annT k [] ty0;unfold annT;have:=Qvd k [] ty0;unfold annT at this;rw [this];rfl
theorem Qyb(H:FlX F F'){k k':Nd}(h1:k'.kind=k.kind)(h2:k'.text=k.text)(h3:k'.pos=k.pos)(S:CSt):pointerS F' k' (renS f S)=renS f (pointerS F k S):=by
 unfold pointerS;rw [h1,h2,h3,H.r.s2];cases decide (k.kind=8);rfl;exact Ycb _ _ _ S
theorem Uxf(H:FlX F F'){k k':Nd}(h1:k'.kind=k.kind)(h2:k'.text=k.text)(h3:k'.pos=k.pos)(h4:ofF k'=ofF k)(S:CSt):localS F' k' (renS f S)=renS f (localS F k S):=by
 unfold localS;rw [Qyb H h1 h2 h3,h3,h4];exact Ycb _ _ _ _
theorem Xqc(H:FlX F F')(k:Nd)(S:CSt):localS F' (plainT k) (renS f S)=renS f (localS F k S):=Uxf H (Zwa k) (Wma k) (Xnc k) (Vgb k) S
theorem Zuc(H:FlX F F')(h:Vn S)(hn:t.text≠rnN)(ht:t.kind=27)(hr:(lookR F S t).2=true):lookR F' (renS f S) (renT f (lookR F S t).1)=(renT f (lookR F S t).1,true):=by
 cases h1:findV S.vars t.text with
 | some v =>
  have e:lookR F S t=(.mk t.kind t.text v.num t.pos [] v.typ 1 ((S.level:Int)-v.level),true):=by unfold lookR;rw [h1]
  rw [e];obtain ⟨x,hx⟩:∃ x,x=Nd.mk t.kind t.text v.num t.pos [] v.typ 1 ((S.level:Int)-v.level):=⟨_,rfl⟩;show lookR F' (renS f S) (renT f (.mk t.kind t.text v.num t.pos [] v.typ 1 ((S.level:Int)-v.level)))=(renT f (.mk t.kind t.text v.num t.pos [] v.typ 1 ((S.level:Int)-v.level)),true);have hd:dclB (.mk t.kind t.text v.num t.pos [] v.typ 1 ((S.level:Int)-v.level))=true:=by unfold dclB;rw [show (Nd.mk t.kind t.text v.num t.pos [] v.typ 1 ((S.level:Int)-v.level)).kind=27 from ht];rfl
  rw [Qr,Ztc rfl hd];show lookR F' (renS f S) (.mk t.kind (renN f t.text) v.num t.pos [] v.typ 1 ((S.level:Int)-v.level))=(.mk t.kind (renN f t.text) v.num t.pos [] v.typ 1 ((S.level:Int)-v.level),true);unfold lookR;rw [show (Nd.mk t.kind (renN f t.text) v.num t.pos [] v.typ 1 ((S.level:Int)-v.level)).text=renN f t.text from rfl,Xlg h hn,h1];rfl
 | none =>
  have h2:=Xmg (f:=f) h hn h1;have fin:∀ (n r:Int) (y:Ty),r≠1→renT f (.mk t.kind t.text n t.pos [] y r 0) = .mk t.kind t.text n t.pos [] y r 0:=fun n r y hr=>by rw [Qr,Jsa (t:=.mk t.kind t.text n t.pos [] y r 0) hr];rfl
  cases q6:decide (0≤(findD F 6 t.text).2);cases q4:decide (0≤(findD F 4 t.text).2);unfold lookR at hr;rw [h1] at hr;dsimp only at hr;rw [q6,q4] at hr;cases hr;have e:lookR F S t=(.mk t.kind t.text (findD F 4 t.text).2 t.pos [] (fncTy (findD F 4 t.text).1) 3 0,true):=by unfold lookR;rw [h1];dsimp only;rw [q6,q4];rfl
  rw [e];dsimp only;rw [fin _ _ _ Od];unfold lookR;rw [show (Nd.mk t.kind t.text (findD F 4 t.text).2 t.pos [] (fncTy (findD F 4 t.text).1) 3 0).text=t.text from rfl,h2];dsimp only;rw [H.r.s6,q6,H.r.s4,q4,H.n4,H.r.f4];rfl;have e:lookR F S t=(.mk t.kind t.text (findD F 6 t.text).2 t.pos [] (ofF (Za (findD F 6 t.text).1 0)).1 2 0,true):=by unfold lookR;rw [h1];dsimp only;rw [q6];rfl
  rw [e];dsimp only;rw [fin _ _ _ Od];unfold lookR;rw [show (Nd.mk t.kind t.text (findD F 6 t.text).2 t.pos [] (ofF (Za (findD F 6 t.text).1 0)).1 2 0).text=t.text from rfl,h2];dsimp only;rw [H.r.s6,q6,H.n6,H.r.t6];rfl
end
structure Rn (f:List UInt8) (F F' t:Nd) (c:Ck):Prop where
  ex:exprB t=true→∀ S,Vn S→(c.ex S).2.ee=0→(ckT F' (renT f (c.ex S).1)).ex (renS f S)=(renT f (c.ex S).1,renS f (c.ex S).2)
  mem:t.kind=28→exprB t=true→∀ S,Vn S→(c.mem S).2.ee=0→(ckT F' (renT f (c.mem S).1.1)).mem (renS f S)=((renT f (c.mem S).1.1,(c.mem S).1.2),renS f (c.mem S).2)
  rcv:exprB t=true→∀ S,Vn S→(c.rcv S).2=true→(ckT F' (renT f (c.rcv S).1)).rcv (renS f S)=(renT f (c.rcv S).1,true)
  rcf:exprB t=true→∀ S,Vn S→(c.rcv S).2=false→(c.ex S).2.ee=0→((ckT F' (renT f (c.ex S).1)).rcv (renS f S)).2=false
  rcm:t.kind=28→∀ S,(c.rcv S).1=(c.mem S).1.1
  rck:∀ S,(c.rcv S).2=true→(c.rcv S).1.kind=t.kind
  cal:exprB t=true→∀ S,Vn S→(c.cal S).2.ee=0→(ckT F' (renT f (c.cal S).1.1)).cal (renS f S)=((renT f (c.cal S).1.1,(c.cal S).1.2),renS f (c.cal S).2)
  st:stmtB t=true→∀ S,Vn S→(c.st S).2.ee=0→(ckT F' (renT f (c.st S).1)).st (renS f S)=(renT f (c.st S).1,renS f (c.st S).2)∧Vn (c.st S).2
  blk:blockB t=true→∀ S,Vn S→(c.blk S).2.ee=0→(ckT F' (renT f (c.blk S).1)).blk (renS f S)=(renT f (c.blk S).1,renS f (c.blk S).2)
  ifs:ifB t=true→∀ S,Vn S→(c.ifs S).2.ee=0→(ckT F' (renT f (c.ifs S).1)).ifs (renS f S)=(renT f (c.ifs S).1,renS f (c.ifs S).2)
  sts:blockB t=true→∀ S,Vn S→(c.sts S).2.ee=0→(ckT F' (renT f (c.sts S).1)).sts (renS f S)=(renT f (c.sts S).1,renS f (c.sts S).2)∧Vn (c.sts S).2
  cas:Xga t=true→∀ b S,Vn S→(c.cas b S).2.ee=0→(ckT F' (renT f (c.cas b S).1)).cas b (renS f S)=(renT f (c.cas b S).1,renS f (c.cas b S).2)
theorem Al.kind{x t:Nd}(h:Al x t):x.kind=t.kind:=by rw [← Zwa x,← Zwa t,h]
theorem Al.pos{x t:Nd}(h:Al x t):x.pos=t.pos:=by rw [← Xnc x,← Xnc t,h]
theorem Al.text{x t:Nd}(h:Al x t):x.text=t.text:=by rw [← Wma x,← Wma t,h]
theorem Al.len{x t:Nd}(h:Al x t):x.kids.length=t.kids.length:=by rw [← Zub x,← Zub t,h]
theorem Al.kid{x t:Nd}(h:Al x t)(i:Nat):Al (Za x i) (Za t i):=by unfold Al at h ⊢;rw [← Jt,← Jt,h]
theorem Al.ends{x t:Nd}(h:Al x t):endT x=endT t:=by rw [← Vee x,← Vee t,h]
section
variable {f:List UInt8} {F F' t:Nd} {S:CSt}
theorem Wwd(H:FlX F F')(Z:∀ i,CkS (ckX F t i) (cN t i))(X:∀ i,Rn f F F' (Za t i) (ckX F t i))(ht:t.kind=28)(hx:exprB t=true)(h:Vn S)(h0:(memR F t (ckX F t) S).2.ee=0) :
 memR F' (renT f (memR F t (ckX F t) S).1.1) (ckX F' (renT f (memR F t (ckX F t) S).1.1)) (renS f S)=((renT f (memR F t (ckX F t) S).1.1,(memR F t (ckX F t) S).1.2),renS f (memR F t (ckX F t) S).2):=by
 obtain ⟨_,hl,hx0⟩:=sh28 ht hx;have a:=(X 0).ex hx0 S h (Er.z (Xef S) h0)
 have e:∃ fl,(Ug F ((ckX F t 0).ex S).1.ty.name).1.find? (fun g=>decide (g.name=t.text))=some fl∧decide (((ckX F t 0).ex S).1.ty.kind=4)=true∧memR F t (ckX F t) S=((annT t [((ckX F t 0).ex S).1] fl.ty,true),((ckX F t 0).ex S).2):=by
  unfold memR at h0 ⊢;dsimp only at h0 ⊢;cases hq:decide (((ckX F t 0).ex S).1.ty.kind=4);rw [hq] at h0;exact (fs0 h0).elim;rw [hq] at h0;simp only [Zfh] at h0 ⊢
  cases hf:(Ug F ((ckX F t 0).ex S).1.ty.name).1.find? (fun g=>decide (g.name=t.text)) with
  | none=>rw [hf] at h0;exact (fs0 h0).elim
  | some fl=>exact ⟨fl,rfl,by first|rfl|trivial,rfl⟩
 obtain ⟨fl,e1,e2,e3⟩:=e;rw [e3];dsimp only;obtain ⟨w,wt⟩:=Zga (f:=f) t [((ckX F t 0).ex S).1] fl.ty;have w0:ckX F' (renT f (annT t [((ckX F t 0).ex S).1] fl.ty)) 0=ckT F' (renT f ((ckX F t 0).ex S).1):=w.x (by show 0<1;omega);unfold memR;dsimp only;rw [w0,a];dsimp only;rw [Qo,e2,H.r.fl,wt,e1];simp only [Zfh];rw [show [renT f ((ckX F t 0).ex S).1]=[((ckX F t 0).ex S).1].map (renT f) from rfl,w.ann wt]
theorem Qwd(H:FlX F F')(h:Vn S)(hn:t.text≠rnN)(ht:t.kind=27)(hr:(lookR F S t).2=true):(renT f (lookR F S t).1).kind=27:=by
 rw [Wm];unfold lookR at hr ⊢;split;exact ht;cases decide (0≤(findD F 6 t.text).2);cases decide (0≤(findD F 4 t.text).2) <;> exact ht
 exact ht
theorem Qxg(H:FlX F F')(Z:∀ i,CkS (ckX F t i) (cN t i))(X:∀ i,Rn f F F' (Za t i) (ckX F t i))(hn:t.text≠rnN)(hx:exprB t=true)(h:Vn S)(hr:(rcvR F t (ckX F t) S).2=true) :
 rcvR F' (renT f (rcvR F t (ckX F t) S).1) (ckX F' (renT f (rcvR F t (ckX F t) S).1)) (renS f S)=(renT f (rcvR F t (ckX F t) S).1,true):=by
 cases h27:decide (t.kind=27);cases h28:decide (t.kind=28);unfold rcvR at hr;rw [h27,h28] at hr;cases hr;have ht:=Zch h28;have e:rcvR F t (ckX F t) S=((memR F t (ckX F t) S).1.1,((memR F t (ckX F t) S).1.2&&decide ((memR F t (ckX F t) S).2.ee=0))&&decide (8≤(memR F t (ckX F t) S).1.1.ty.kind)):=by unfold rcvR;rw [h27,h28];rfl
 rw [e] at hr ⊢;dsimp only at hr ⊢;have hr':=hr;rw [Aga,Aga,Zah] at hr';have m:=Wwd H Z X ht hx h hr'.1.2;have hk:(renT f (memR F t (ckX F t) S).1.1).kind=28:=by rw [Wm,((Wnc F t).mem ht hx S |> fun q:Al ((ckT F t).mem S).1.1 t=>(show (memR F t (ckX F t) S).1.1.kind=t.kind from by rw [Vm] at q;exact q.kind))];exact ht
 unfold rcvR;rw [hk,m];show ((renT f (memR F t (ckX F t) S).1.1,((memR F t (ckX F t) S).1.2&&decide ((memR F t (ckX F t) S).2.ee=0))&&decide (8≤(renT f (memR F t (ckX F t) S).1.1).ty.kind)):Nd×Bool)=_;rw [Qo,hr];have ht:=Zch h27;have e:rcvR F t (ckX F t) S=((lookR F S t).1,((lookR F S t).2&&decide ((lookR F S t).1.ref=2))&&decide (8≤(lookR F S t).1.ty.kind)):=by unfold rcvR;rw [h27];rfl
 rw [e] at hr ⊢;dsimp only at hr ⊢;have hr':=hr;rw [Aga,Aga] at hr';have m:=Zuc (f:=f) H h hn ht hr'.1.1;have hk:=Qwd (f:=f) H h hn ht hr'.1.1;unfold rcvR;rw [hk,m];show ((renT f (lookR F S t).1,(true&&decide ((renT f (lookR F S t).1).ref=2))&&decide (8≤(renT f (lookR F S t).1).ty.kind)):Nd×Bool)=_;rw [Qpc,Qo];rw [hr'.1.1] at hr;rw [hr]
theorem Ydb(F t:Nd)(ps:List Ty)(S:CSt):∀ i,(argA t (ckX F t) ps S i).1.length=i
 | 0=>rfl
 | i+1=>by rw [argA];dsimp only;rw [Aoa,Ydb F t ps S i];rfl
theorem Qxd(F t:Nd)(ps:List Ty)(S:CSt)(i:Nat):∀ k,(argA t (ckX F t) ps S (i+1+k)).1.getD i nd0=((ckX F t (i+1)).ex (argA t (ckX F t) ps S i).2).1
 | 0=>by
  show (argA t (ckX F t) ps S (i+1)).1.getD i nd0=_;rw [argA];dsimp only;rw [Ada,Bia (by rw [Ydb];exact Aba _),Ydb,Bba];rfl
 | k+1=>by
  rw [← Ava,argA];dsimp only;rw [Ada,Bja (by rw [Ydb];omega),← Ada];exact Qxd F t ps S i k
theorem Uyf(Z:∀ i,CkS (ckX F t i) (cN t i))(X:∀ i,Rn f F F' (Za t i) (ckX F t i))(hk:t.kids.all exprB=true)(ps:List Ty)(h:Vn S){t' c:Nd}{m:Nat}(w:Tw f t (c::(argA t (ckX F t) ps S m).1) t')(hm:m+1≤t.kids.length)
  (h0:(argA t (ckX F t) ps S m).2.ee=0):∀ i,i≤m→argA t' (ckX F' t') ps (renS f S) i=((argA t (ckX F t) ps S i).1.map (renT f),renS f (argA t (ckX F t) ps S i).2)∧Vn (argA t (ckX F t) ps S i).2
 | 0,_=>⟨rfl,h⟩
 | i+1,hi=>by
  obtain ⟨a,v⟩:=Uyf Z X hk ps h w hm h0 i O
  have hz:(argA t (ckX F t) ps S (i+1)).2.ee=0:=by
   have e:=Uic Z ps S (i+1) (m-(i+1));rw [show i+1+(m-(i+1))=m by omega] at e;exact e.z h0
  have e:(c::(argA t (ckX F t) ps S m).1).getD (i+1) nd0=((ckX F t (i+1)).ex (argA t (ckX F t) ps S i).2).1:=by
   rw [List.getD_cons_succ];have:=Qxd F t ps S i (m-(i+1));rwa [show i+1+(m-(i+1))=m by omega] at this
  have x1:=w.x (F':=F') (i:=i+1) (by rw [Apa,Ydb];omega);have k1:=w.kid (i+1);rw [e] at x1 k1;have hx:=Xs hk (show i+1<t.kids.length by omega);rw [argA] at hz;have hz1:=(fu hz).2;have b:=(X (i+1)).ex hx _ v hz1
  have al:Al ((ckX F t (i+1)).ex (argA t (ckX F t) ps S i).2).1 (Za t (i+1)):=by
   rw [Xx O];exact (Wnc F _).ex hx _
  rw [argA,argA,a];dsimp only;rw [x1,b];dsimp only;rw [k1,Wsd,Qo,al.pos,Ycb,Afa];exact ⟨rfl,(v.vs ((Ywa F t (i+1)).ex _ v.s)).vs (Zla _ _ _ _)⟩
theorem Xng(Z:∀ i,CkS (ckX F t i) (cN t i))(X:∀ i,Rn f F F' (Za t i) (ckX F t i))(ht:t.kind=30)(hx:exprB t=true)(h:Vn S)(h0:(callR t (ckX F t) S).2.ee=0) :
 callR (renT f (callR t (ckX F t) S).1) (ckX F' (renT f (callR t (ckX F t) S).1)) (renS f S)=(renT f (callR t (ckX F t) S).1,renS f (callR t (ckX F t) S).2):=by
 obtain ⟨h1,h2⟩:=sh30 ht hx;obtain ⟨t',e'⟩:∃ t',t'=renT f (callR t (ckX F t) S).1:=⟨_,rfl⟩;rw [← e'];unfold callR at h0 e' ⊢;dsimp only at h0 e' ⊢;have e0:=Uic Z ((ckX F t 0).cal S).1.2.1 (failU (decide ((t.kids.length:Int)-1=((ckX F t 0).cal S).1.2.1.length)) t.pos 7 ((ckX F t 0).cal S).2) 0 (t.kids.length-1);rw [Bra] at e0;have h3:=(fu (e0.z h0)).2;have a:=(X 0).cal (Xs h2 h1) S h h3;obtain ⟨w,wt⟩:=Zga (f:=f) t (((ckX F t 0).cal S).1.1::(argA t (ckX F t) ((ckX F t 0).cal S).1.2.1 (failU (decide ((t.kids.length:Int)-1=((ckX F t 0).cal S).1.2.1.length)) t.pos 7 ((ckX F t 0).cal S).2) (t.kids.length-1)).1) ((ckX F t 0).cal S).1.2.2;rw [← e'] at w wt;have x0:ckX F' t' 0=ckT F' (renT f ((ckX F t 0).cal S).1.1):=w.x (F':=F') (i:=0) (by rw [Apa];omega);have hl:t'.kids.length=t.kids.length:=by rw [w.len,Apa,Ydb];omega
 rw [x0];show ((annT t' (((ckT F' (renT f ((ckX F t 0).cal S).1.1)).cal (renS f S)).1.1::_) _,_):Nd×CSt)=_;rw [a,hl,w.pos];dsimp only;rw [Ycb];have b:=(Uyf Z X h2 ((ckX F t 0).cal S).1.2.1 (S:=failU (decide ((t.kids.length:Int)-1=((ckX F t 0).cal S).1.2.1.length)) t.pos 7 ((ckX F t 0).cal S).2) ((h.vs ((Ywa F t 0).cal S h.s)).vs (Zla _ _ _ _)) w O h0 _ (Aba _)).1;rw [b];dsimp only;rw [← Asa,w.ann wt,← e']
theorem Qyg(X:∀ i,Rn f F F' (Za t i) (ckX F t i))(ht:t.kind=38)(hx:exprB t=true)(h:Vn S)(h0:(litR t (ckX F t) S).2.ee=0) :
 litR (renT f (litR t (ckX F t) S).1) (ckX F' (renT f (litR t (ckX F t) S).1)) (renS f S)=(renT f (litR t (ckX F t) S).1,renS f (litR t (ckX F t) S).2):=by
 have b:=(X 0).blk (sh38 ht hx).2 (litS S) ⟨h.n,h.s⟩ h0;obtain ⟨w,wt⟩:=Zga (f:=f) t [((ckX F t 0).blk (litS S)).1] tFunc;have x0:ckX F' (renT f (litR t (ckX F t) S).1) 0=ckT F' (renT f ((ckX F t 0).blk (litS S)).1):=w.x (F':=F') (i:=0) (by show 0<1;omega);unfold litR at x0 ⊢;dsimp only at x0 ⊢;rw [x0,show litS (renS f S)=renS f (litS S) from rfl,b];dsimp only;rw [show [renT f ((ckX F t 0).blk (litS S)).1]=[((ckX F t 0).blk (litS S)).1].map (renT f) from rfl,w.ann wt];rfl
end
theorem Ufa{f:List UInt8}{b b':Bool}{a a' e:Int}{S:CSt}(h:b'=b)(hz:(failU b a e S).ee=0)(he:e≠0:=by decide):failU b' a' e (renS f S)=renS f (failU b a e S):=by
 obtain ⟨h1,_⟩:=fu hz he;rw [h,h1];rfl
theorem al_x{F t:Nd}{i:Nat}{S:CSt}(hx:exprB (Za t i)=true):Al ((ckX F t i).ex S).1 (Za t i):=by
 by_cases hi:i<t.kids.length;rw [Xx hi];exact (Wnc F _).ex hx _;rw [Jca hi] at hx;exact absurd hx Od
section
variable {f:List UInt8} {F F' t:Nd} {S:CSt}
theorem Qyd{a:Nd}{T:CSt}(A:(ckT F' (renT f a)).ex (renS f S)=(renT f a,renS f T))(y:Ty)(b:Nd→Bool)(p p':Int)(hb:b (renT f a)=b a)(hz:(failU (b a) p 7 T).ee=0){t':Nd}(e:t'=renT f (annT t [a] y)) :
 ((annT t' [((ckX F' t' 0).ex (renS f S)).1] y,failU (b ((ckX F' t' 0).ex (renS f S)).1) p' 7 ((ckX F' t' 0).ex (renS f S)).2):Nd×CSt)=(t',renS f (failU (b a) p 7 T)):=by
 obtain ⟨w,wt⟩:=Zga (f:=f) t [a] y;rw [← e] at w wt;have x0:ckX F' t' 0=ckT F' (renT f a):=w.x (F':=F') (i:=0) (by show 0<1;omega);have q:=w.ann wt [a] y;rw [← e] at q;rw [x0,A];dsimp only;rw [Ufa hb hz,show [renT f a]=[a].map (renT f) from rfl,q]
theorem Xog{a b:Nd}{T U:CSt}(A:(ckT F' (renT f a)).ex (renS f S)=(renT f a,renS f T))(b1:Nd→Bool)(p1 p1':Int)(hb1:b1 (renT f a)=b1 a)(hz1:(failU (b1 a) p1 7 T).ee=0)(B:(ckT F' (renT f b)).ex (renS f (failU (b1 a) p1 7 T))=(renT f b,renS f U))
 (y:Nd→Nd→Ty) (hy:y (renT f a) (renT f b)=y a b) (b2:Nd→Nd→Bool) (p2 p2':Int) (hb2:b2 (renT f a) (renT f b)=b2 a b) (hz2:(failU (b2 a b) p2 7 U).ee=0) {t':Nd} (e:t'=renT f (annT t [a,b] (y a b))) :
 ((annT t' [((ckX F' t' 0).ex (renS f S)).1,((ckX F' t' 1).ex (failU (b1 ((ckX F' t' 0).ex (renS f S)).1) p1' 7 ((ckX F' t' 0).ex (renS f S)).2)).1] (y ((ckX F' t' 0).ex (renS f S)).1 ((ckX F' t' 1).ex (failU (b1 ((ckX F' t' 0).ex (renS f S)).1) p1' 7 ((ckX F' t' 0).ex (renS f S)).2)).1),
 failU (b2 ((ckX F' t' 0).ex (renS f S)).1 ((ckX F' t' 1).ex (failU (b1 ((ckX F' t' 0).ex (renS f S)).1) p1' 7 ((ckX F' t' 0).ex (renS f S)).2)).1) p2' 7 ((ckX F' t' 1).ex (failU (b1 ((ckX F' t' 0).ex (renS f S)).1) p1' 7 ((ckX F' t' 0).ex (renS f S)).2)).2):Nd×CSt)=(t',renS f (failU (b2 a b) p2 7 U)):=by
 obtain ⟨w,wt⟩:=Zga (f:=f) t [a,b] (y a b);rw [← e] at w wt;have x0:ckX F' t' 0=ckT F' (renT f a):=w.x (F':=F') (i:=0) (by show 0<2;omega);have x1:ckX F' t' 1=ckT F' (renT f b):=w.x (F':=F') (i:=1) (by show 1<2;omega);have q:=w.ann wt [a,b] (y a b);rw [← e] at q;rw [x0,x1,A];dsimp only;rw [Ufa hb1 hz1,B];dsimp only;rw [Ufa hb2 hz2,hy,show [renT f a,renT f b]=[a,b].map (renT f) from rfl,q]
theorem rn_op(Z:∀ i,CkS (ckX F t i) (cN t i))(X:∀ i,Rn f F F' (Za t i) (ckX F t i))(hx:exprB t=true)(hk:t.kind∈([29,31,32,33,35,36,37]:List Int))(h:Vn S)(h0:(opR t (ckX F t) S).2.ee=0) :
 opR (renT f (opR t (ckX F t) S).1) (ckX F' (renT f (opR t (ckX F t) S).1)) (renS f S)=(renT f (opR t (ckX F t) S).1,renS f (opR t (ckX F t) S).2):=by
 obtain ⟨t',e'⟩:∃ t',t'=renT f (opR t (ckX F t) S).1:=⟨_,rfl⟩;rw [← e']
 have hk':t'.kind=t.kind∧t'.text=t.text:=by
  have al:Al (opR t (ckX F t) S).1 t:=Wkg (x:=ckX F t) (S:=S) (fun i=>by
   by_cases hi:i<t.kids.length;rw [Xx hi];exact Wnc F _;rw [Zrc hi,Jca hi];exact pl_0) hx hk
  have hr:(opR t (ckX F t) S).1.ref=0:=by
   unfold opR;dsimp only;repeat' (first|rfl|(generalize decide (t.kind=_)=q;cases q <;> simp only [Zfh,Zeh]))
  rw [e'];exact ⟨(Wm _).trans al.kind,by rw [Zsc,Jsa (by rw [hr];decide)];exact al.text⟩
 have eu:unTy t'=unTy t:=by unfold unTy;rw [hk'.2]
 have A:=fun k z=>(X 0).ex k S h z;have v:=fun b p=>(h.vs ((Ywa F t 0).ex S h.s)).vs (Zla b p 7 ((ckX F t 0).ex S).2);unfold opR at h0 e' ⊢;dsimp only [wantS] at h0 e' ⊢;rw [hk'.1,hk'.2,eu];cases h29:decide (t.kind=29)
 case true =>
  rw [h29] at h0 e';obtain ⟨hl,k0,k1⟩:=sh29 (Zch h29) hx;have z1:=(fu h0).2;have z2:=((Z 1).ex _).e.z z1;exact Xog (A k0 (fu z2).2) (fun a=>decide (a.ty.kind=5)) (Za t 0).pos (Za t' 0).pos (by rw [Qo]) z2 ((X 1).ex k1 _ (v _ _) z1) (fun _ _=>tInt) rfl (fun _ b=>decide (b.ty.kind=1)) (Za t 1).pos (Za t' 1).pos (by rw [Qo]) h0 e'
 rw [h29] at h0 e';cases h31:decide (t.kind=31)
 case true =>
  rw [h31] at h0 e';obtain ⟨_,_,k0⟩:=sh31 (Zch h31) hx;exact Qyd (A k0 (fu h0).2) (unTy t) (fun a=>decide (a.ty.kind=(unTy t).kind)) t.pos t'.pos (by rw [Qo]) h0 e'
 rw [h31] at h0 e';cases h32:decide (t.kind=32)
 case true =>
  rw [h32] at h0 e';obtain ⟨_,hl,k0,k1⟩:=sh32 (Zch h32) hx;have z1:=(fu h0).2;have z2:=((Z 1).ex _).e.z z1;exact Xog (A k0 z2) (fun a=>true) 0 0 rfl z2 ((X 1).ex k1 _ (v true 0) z1) (fun a b=>(binT t.text a.ty b.ty).1) (by rw [Qo,Qo]) (fun a b=>(binT t.text a.ty b.ty).2) t.pos t'.pos (by rw [Qo,Qo]) h0 e'
 rw [h32] at h0 e';simp only [Zbh] at h29 h31 h32;simp only [Ara,Aua,or_false] at hk;cases h33:decide (t.kind=33)
 case true =>
  rw [h33] at h0 e';exact Qyd (A (sh33 (Zch h33) hx).2 (fu h0).2) tInt (fun a=>decide (a.ty.kind=6)) t.pos t'.pos (by rw [Qo]) h0 e'
 rw [h33] at h0 e';cases h37:decide (t.kind=37)
 case true =>
  rw [h37] at h0 e';exact Qyd (A (sh37 (Zch h37) hx).2 (fu h0).2) tInt (fun a=>decide (a.ty.kind=5)) (Za t 0).pos (Za t' 0).pos (by rw [Qo]) h0 e'
 rw [h37] at h0 e';cases h35:decide (t.kind=35)
 case true =>
  rw [h35] at h0 e';exact Qyd (A (sh35 (Zch h35) hx).2 (fu h0).2) ⟨5,[]⟩ (fun a=>decide (a.ty.kind=1)) (Za t 0).pos (Za t' 0).pos (by rw [Qo]) h0 e'
 rw [h35] at h0 e';simp only [Zbh] at h33 h37 h35;have h36:t.kind=36:=by omega
 rw [Jyg h36] at h0 e' ⊢;exact Qyd (A (sh36 h36 hx).2 (fu h0).2) ⟨6,[]⟩ (fun a=>decide (a.ty.kind=1)) (Za t 0).pos (Za t' 0).pos (by rw [Qo]) h0 e'
theorem Qqc(y:Ty):annT (renT f (annT t [] y)) [] y=renT f (annT t [] y):=by
 obtain ⟨w,wt⟩:=Zga (f:=f) t [] y;exact w.ann wt [] y
theorem Qrc(hx:exprB t=true):(renT f (exR F t (ckX F t) S).1).kind=t.kind:=by
 rw [Wm];have q:=(Wnc F t).ex hx S;rw [Vm] at q;exact q.kind
theorem Wqg(H:FlX F F')(Z:∀ i,CkS (ckX F t i) (cN t i))(X:∀ i,Rn f F F' (Za t i) (ckX F t i))(hn:t.text≠rnN)(hx:exprB t=true)(h:Vn S)(h0:(exR F t (ckX F t) S).2.ee=0) :
 exR F' (renT f (exR F t (ckX F t) S).1) (ckX F' (renT f (exR F t (ckX F t) S).1)) (renS f S)=(renT f (exR F t (ckX F t) S).1,renS f (exR F t (ckX F t) S).2):=by
 have hk:=Qrc (f:=f) (F:=F) (S:=S) hx;obtain ⟨t',e'⟩:∃ t',t'=renT f (exR F t (ckX F t) S).1:=⟨_,rfl⟩;rw [← e'] at hk ⊢;unfold exR at h0 e' ⊢;rw [hk];cases h24:decide (t.kind=24);case true=>rw [h24] at e';rw [e'];exact Prod.ext (Qqc _) rfl
 rw [h24] at h0 e';cases h25:decide (t.kind=25);case true=>rw [h25] at e';rw [e'];exact Prod.ext (Qqc _) rfl
 rw [h25] at h0 e';cases h26:decide (t.kind=26);case true=>rw [h26] at e';rw [e'];exact Prod.ext (Qqc _) rfl
 rw [h26] at h0 e';cases h38:decide (t.kind=38);case true=>rw [h38] at h0 e';rw [e'];exact Qyg X (Zch h38) hx h h0
 rw [h38] at h0 e';cases h30:decide (t.kind=30);case true=>rw [h30] at h0 e';rw [e'];exact Xng Z X (Zch h30) hx h h0
 rw [h30] at h0 e';cases h27:decide (t.kind=27)
 case true =>
  rw [h27] at h0 e';have h0:(bif (lookR F S t).2 then failU (Vl (lookR F S t).1.ty) t.pos 7 S else failS t.pos 5 S).ee=0:=h0;have e':t'=renT f (lookR F S t).1:=e';cases hr:(lookR F S t).2;rw [hr] at h0;exact (fs0 h0).elim;have m:=Zuc (f:=f) H h hn (Zch h27) hr;rw [hr] at h0;simp only [Zfh,Zeh];rw [← e'] at m;rw [m];dsimp only;rw [Zfh,e',Qo,Ufa (a:=t.pos) (e:=7) rfl h0]
 rw [h27] at h0 e';cases h28:decide (t.kind=28)
 case true =>
  rw [h28] at h0 e';have m:=Wwd (f:=f) H Z X (Zch h28) hx h (fu h0).2;have e':t'=renT f (memR F t (ckX F t) S).1.1:=e';rw [← e'] at m;simp only [Zfh,Zeh];rw [m];dsimp only;rw [Ufa (b:=!((memR F t (ckX F t) S).1.2 && !Vl (memR F t (ckX F t) S).1.1.ty)) (a:=t.pos) (by rw [e',Qo]) h0]
 rw [h28] at h0 e';cases h34:decide (t.kind=34)
 case true =>
  rw [h34] at h0 e';have e':t'=renT f (annT t [] ⟨4,t.text⟩):=e';obtain ⟨w,wt⟩:=Zga (f:=f) t [] ⟨4,t.text⟩;simp only [Zfh,Zeh];rw [e',wt,Qqc,Ufa (b:=!decide ((findD F 2 t.text).2<0)) (a:=t.pos) (by rw [H.r.s2]) h0]
 rw [h34] at h0 e';simp only [Zbh] at h24 h25 h26 h38 h30 h27 h28 h34;rw [e'];exact rn_op Z X hx (Wod hx h24 h25 h26 h38 h30 h27 h28 h34) h h0
theorem Qzg(H:FlX F F')(Z:∀ i,CkS (ckX F t i) (cN t i))(X:∀ i,Rn f F F' (Za t i) (ckX F t i))(hn:t.text≠rnN)(hx:exprB t=true)(h:Vn S)(hr:(rcvR F t (ckX F t) S).2=false)(h0:(exR F t (ckX F t) S).2.ee=0) :
 (rcvR F' (renT f (exR F t (ckX F t) S).1) (ckX F' (renT f (exR F t (ckX F t) S).1)) (renS f S)).2=false:=by
 have hk:=Qrc (f:=f) (F:=F) (S:=S) hx;obtain ⟨t',e'⟩:∃ t',t'=renT f (exR F t (ckX F t) S).1:=⟨_,rfl⟩;rw [← e'] at hk ⊢;unfold rcvR at hr ⊢;rw [hk];cases h27:decide (t.kind=27);cases h28:decide (t.kind=28);rfl;rw [h27,h28] at hr;have ht:=Zch h28;unfold exR at h0 e';rw [ht] at h0 e';have h0:(failU (!((memR F t (ckX F t) S).1.2 && !Vl (memR F t (ckX F t) S).1.1.ty)) t.pos 7 (memR F t (ckX F t) S).2).ee=0:=h0;have e':t'=renT f (memR F t (ckX F t) S).1.1:=e';have m:=Wwd (f:=f) H Z X ht hx h (fu h0).2;rw [← e'] at m;simp only [Zfh,Zeh] at hr ⊢;rw [m];dsimp only;rw [e',Qo];exact hr;rw [h27] at hr;have ht:=Zch h27;unfold exR at h0 e';rw [ht] at h0 e';have h0:(bif (lookR F S t).2 then failU (Vl (lookR F S t).1.ty) t.pos 7 S else failS t.pos 5 S).ee=0:=h0;have e':t'=renT f (lookR F S t).1:=e';cases hl:(lookR F S t).2;rw [hl] at h0;exact (fs0 h0).elim;have m:=Zuc (f:=f) H h hn ht hl;rw [← e'] at m;simp only [Zfh,Zeh] at hr ⊢;rw [m];dsimp only;rw [e',Qpc,Qo,← hl];exact hr
theorem Jag(H:FlX F F')(Z:∀ i,CkS (ckX F t i) (cN t i))(X:∀ i,Rn f F F' (Za t i) (ckX F t i))(hn:t.text≠rnN)(hx:exprB t=true)(h:Vn S)(h0:(calR F t (ckX F t) S).2.ee=0) :
 calR F' (renT f (calR F t (ckX F t) S).1.1) (ckX F' (renT f (calR F t (ckX F t) S).1.1)) (renS f S)=((renT f (calR F t (ckX F t) S).1.1,(calR F t (ckX F t) S).1.2),renS f (calR F t (ckX F t) S).2):=by
 cases h1:(decide (t.kind=28)&&((ckX F t 0).rcv S).2);cases h2:(decide (t.kind=27)&&((lookR F S t).2&&decide ((lookR F S t).1.ref=3)));have e:calR F t (ckX F t) S=(((exR F t (ckX F t) S).1,[],ty0),failU (tyEqB (exR F t (ckX F t) S).1.ty tFunc) t.pos 7 (exR F t (ckX F t) S).2):=by unfold calR;rw [h1,h2];rfl
 rw [e] at h0 ⊢;dsimp only at h0 ⊢;have z:=(fu h0).2;have m:=Wqg (f:=f) H Z X hn hx h z;have hk:=Qrc (f:=f) (F:=F) (S:=S) hx;obtain ⟨t',e'⟩:∃ t',t'=renT f (exR F t (ckX F t) S).1:=⟨_,rfl⟩;rw [← e'] at m hk ⊢
 have c1:(decide (t'.kind=28)&&((ckX F' t' 0).rcv (renS f S)).2)=false:=by
  rw [hk];cases h28:decide (t.kind=28);rfl;rw [h28] at h1;have ht:=Zch h28;obtain ⟨_,hl,k0⟩:=sh28 ht hx;unfold exR at z e';rw [ht] at z e';have z:(failU (!((memR F t (ckX F t) S).1.2 && !Vl (memR F t (ckX F t) S).1.1.ty)) t.pos 7 (memR F t (ckX F t) S).2).ee=0:=z;have e':t'=renT f (memR F t (ckX F t) S).1.1:=e';have z0:=Er.z (Xef S) (fu z).2
  have ek:t'.kids=[((ckX F t 0).ex S).1].map (renT f):=by
   rw [e',Zfa];unfold memR;dsimp only;cases decide (((ckX F t 0).ex S).1.ty.kind=4);rfl;simp only [Zfh];split <;> rfl
  have x0:ckX F' t' 0=ckT F' (renT f ((ckX F t 0).ex S).1):=by rw [ckX,ek];rfl
  rw [x0];exact (X 0).rcf k0 S h h1 z0
 have c2:(decide (t'.kind=27)&&((lookR F' (renS f S) t').2&&decide ((lookR F' (renS f S) t').1.ref=3)))=false:=by
  rw [hk];cases h27:decide (t.kind=27);rfl;rw [h27] at h2;have ht:=Zch h27;unfold exR at z e';rw [ht] at z e';have z:(bif (lookR F S t).2 then failU (Vl (lookR F S t).1.ty) t.pos 7 S else failS t.pos 5 S).ee=0:=z;have e':t'=renT f (lookR F S t).1:=e';cases hl:(lookR F S t).2;rw [hl] at z;exact (fs0 z).elim;have m:=Zuc (f:=f) H h hn ht hl;rw [← e'] at m;rw [m];dsimp only;rw [hl] at h2;rw [e',Qpc];exact h2
 unfold calR;dsimp only;rw [c1,c2];simp only [Zeh];rw [m];dsimp only;rw [Ufa (b:=tyEqB (exR F t (ckX F t) S).1.ty tFunc) (a:=t.pos) (by rw [e',Qo]) h0];have e:calR F t (ckX F t) S=(((lookR F S t).1,(Za (findD F 4 t.text).1 0).kids.map (fun p=>(ofF (Za p 0)).1),(ofF (Za (findD F 4 t.text).1 1)).1),S):=by unfold calR;rw [h1,h2];rfl
 rw [e];dsimp only;simp only [Aga,Zah] at h2;have m:=Zuc (f:=f) H h hn h2.1 h2.2.1;have hk:=Qwd (f:=f) H h hn h2.1 h2.2.1
 have tx:(renT f (lookR F S t).1).text=t.text:=by
  rw [Zsc,Jsa (by rw [h2.2.2];decide)];have hr:=h2.2.1;unfold lookR at hr ⊢;split;rfl;cases decide (0≤(findD F 6 t.text).2);cases decide (0≤(findD F 4 t.text).2) <;> rfl
  rfl
 unfold calR;dsimp only;rw [hk,m];dsimp only;rw [Qpc,h2.2.2,tx,H.r.p4,H.r.r4];rfl;have e:calR F t (ckX F t) S=((annT t [(rcvX t (ckX F t) S).1] ty0,(mthF (rcvX t (ckX F t) S).1.ty t.text).1,(mthF (rcvX t (ckX F t) S).1.ty t.text).2.1),failU (mthF (rcvX t (ckX F t) S).1.ty t.text).2.2 t.pos 5 (rcvX t (ckX F t) S).2):=by unfold calR;rw [h1];rfl
 rw [e] at h0 ⊢;dsimp only at h0 ⊢;obtain ⟨q1,hr⟩:=Aea.1 h1;have ht:=Zch q1;obtain ⟨_,hl,k0⟩:=sh28 ht hx;obtain ⟨hm,z⟩:=fu h0;obtain ⟨w,wt⟩:=Zga (f:=f) t [(rcvX t (ckX F t) S).1] ty0;have wq:=w.ann wt [(rcvX t (ckX F t) S).1] ty0;obtain ⟨t',e'⟩:∃ t',t'=renT f (annT t [(rcvX t (ckX F t) S).1] ty0):=⟨_,rfl⟩;rw [← e'] at w wt wq ⊢;have x0:ckX F' t' 0=ckT F' (renT f (rcvX t (ckX F t) S).1):=w.x (F':=F') (i:=0) (by show 0<1;omega);have kq:Za t' 0=renT f (rcvX t (ckX F t) S).1:=w.kid 0
 have R:((ckT F' (renT f (rcvX t (ckX F t) S).1)).rcv (renS f S)).2=true∧rcvX t' (ckX F' t') (renS f S)=(renT f (rcvX t (ckX F t) S).1,renS f (rcvX t (ckX F t) S).2):=by
  have rk:=(X 0).rck S hr;have rr:=(X 0).rcv k0 S h hr;unfold rcvX at z x0 kq ⊢;cases h3:decide ((Za t 0).kind=28);rw [h3] at x0 kq;simp only [Zeh] at x0 kq ⊢;rw [x0,kq,Wm,rk,h3,rr];exact ⟨rfl,rfl⟩;rw [h3] at z x0 kq;simp only [Zfh] at z x0 kq ⊢;have h3':=Zch h3;have rm:=(X 0).rcm h3' S;have mm:=(X 0).mem h3' k0 S h z;rw [rm] at rr rk;rw [x0,kq,Wm,rk,h3,rr,mm];exact ⟨rfl,rfl⟩
 unfold calR;dsimp only;rw [x0,R.1,w.kind,ht,R.2];dsimp only;rw [Qo,wt];show ((annT t' [renT f (rcvX t (ckX F t) S).1] ty0,_,_),failU _ t'.pos 5 _)=_;rw [show [renT f (rcvX t (ckX F t) S).1]=[(rcvX t (ckX F t) S).1].map (renT f) from rfl,wq,Ufa (b:=(mthF (rcvX t (ckX F t) S).1.ty t.text).2.2) (a:=t.pos) (e:=5) rfl h0,e']
/-! statements -/
theorem Vyb(F t:Nd)(S:CSt):∀ i,(stA (ckX F t) S i).1.length=i
 | 0=>rfl
 | i+1=>by rw [stA];dsimp only;rw [Aoa,Vyb F t S i];rfl
theorem Vse(F t:Nd)(S:CSt)(i:Nat):∀ k,(stA (ckX F t) S (i+1+k)).1.getD i nd0=((ckX F t i).st (stA (ckX F t) S i).2).1
 | 0=>by
  show (stA (ckX F t) S (i+1)).1.getD i nd0=_;rw [stA];dsimp only;rw [Ada,Bia (by rw [Vyb];exact Aba _),Vyb,Bba];rfl
 | k+1=>by
  rw [← Ava,stA];dsimp only;rw [Ada,Bja (by rw [Vyb];omega),← Ada];exact Vse F t S i k
theorem Uzf(Z:∀ i,CkS (ckX F t i) (cN t i))(X:∀ i,Rn f F F' (Za t i) (ckX F t i))(hb:t.kids.all stmtB=true)(h:Vn S){t':Nd}(w:Tw f t (stA (ckX F t) S t.kids.length).1 t')(h0:(stA (ckX F t) S t.kids.length).2.ee=0) :
  ∀ i,i≤t.kids.length→stA (ckX F' t') (renS f S) i=((stA (ckX F t) S i).1.map (renT f),renS f (stA (ckX F t) S i).2)∧Vn (stA (ckX F t) S i).2
 | 0,_=>⟨rfl,h⟩
 | i+1,hi=>by
  obtain ⟨a,v⟩:=Uzf Z X hb h w h0 i O
  have hz:(stA (ckX F t) S (i+1)).2.ee=0:=by
   have e:=Xff Z S (i+1) (t.kids.length-(i+1));rw [show i+1+(t.kids.length-(i+1))=t.kids.length by omega] at e;exact e.z h0
  have e:(stA (ckX F t) S t.kids.length).1.getD i nd0=((ckX F t i).st (stA (ckX F t) S i).2).1:=by
   have:=Vse F t S i (t.kids.length-(i+1));rwa [show i+1+(t.kids.length-(i+1))=t.kids.length by omega] at this
  have x1:=w.x (F':=F') (i:=i) (by rw [Vyb];omega);rw [e] at x1;obtain ⟨b,vb⟩:=(X i).st (Xs hb (show i<t.kids.length by omega)) _ v hz;rw [stA,stA,a];dsimp only;rw [x1,b];dsimp only;rw [Afa];exact ⟨rfl,vb⟩
theorem Qaf(Z:∀ i,CkS (ckX F t i) (cN t i))(X:∀ i,Rn f F F' (Za t i) (ckX F t i))(hb:blockB t=true)(h:Vn S)(h0:(stsR t (ckX F t) S).2.ee=0) :
 stsR (renT f (stsR t (ckX F t) S).1) (ckX F' (renT f (stsR t (ckX F t) S).1)) (renS f S)=(renT f (stsR t (ckX F t) S).1,renS f (stsR t (ckX F t) S).2)∧Vn (stsR t (ckX F t) S).2:=by
 obtain ⟨w,wt⟩:=Zga (f:=f) t (stA (ckX F t) S t.kids.length).1 ty0;have hl:(renT f (annT t (stA (ckX F t) S t.kids.length).1 ty0)).kids.length=t.kids.length:=by rw [w.len,Vyb]
 obtain ⟨a,v⟩:=Uzf Z X (sh10 hb) h w h0 _ (Aba _);refine ⟨?_,v⟩;show stsR (renT f (annT t (stA (ckX F t) S t.kids.length).1 ty0)) (ckX F' (renT f (annT t (stA (ckX F t) S t.kids.length).1 ty0))) (renS f S)=_;unfold stsR;rw [hl,a];dsimp only;rw [w.ann wt]
theorem Qbf(Z:∀ i,CkS (ckX F t i) (cN t i))(X:∀ i,Rn f F F' (Za t i) (ckX F t i))(hb:blockB t=true)(h:Vn S)(h0:(blkR t (ckX F t) S).2.ee=0) :
 blkR (renT f (blkR t (ckX F t) S).1) (ckX F' (renT f (blkR t (ckX F t) S).1)) (renS f S)=(renT f (blkR t (ckX F t) S).1,renS f (blkR t (ckX F t) S).2):=by
 have a:=(Qaf (f:=f) (F':=F') Z X hb (S:=openS S) ⟨h.n,Uua h.s⟩ h0).1;unfold blkR;dsimp only;rw [show openS (renS f S)=renS f (openS S) from rfl,a];dsimp only;rw [Vre]
theorem Vte(X:∀ i,Rn f F F' (Za t i) (ckX F t i))(hx:noneB (Za t 0)=true∨exprB (Za t 0)=true)(h:Vn S)(h0:(condR (Za t 0) (ckX F t 0) S).2.ee=0){c:Ck}(hc:c=ckT F' (renT f (condR (Za t 0) (ckX F t 0) S).1)) :
 condR (renT f (condR (Za t 0) (ckX F t 0) S).1) c (renS f S)=(renT f (condR (Za t 0) (ckX F t 0) S).1,renS f (condR (Za t 0) (ckX F t 0) S).2)∧Vn (condR (Za t 0) (ckX F t 0) S).2∧(condR (Za t 0) (ckX F t 0) S).1.kind=(Za t 0).kind:=by
 subst hc;cases h1:decide ((Za t 0).kind=9);have e:condR (Za t 0) (ckX F t 0) S=(((ckX F t 0).ex S).1,wantS ((ckX F t 0).ex S).1 2 (Za t 0).pos ((ckX F t 0).ex S).2):=by unfold condR;rw [h1];rfl
 rw [e] at h0 ⊢;dsimp only at h0 ⊢;have k0:=hx.resolve_left fun q=>Zdh h1 (Vy q).1;have al:Al ((ckX F t 0).ex S).1 (Za t 0):=al_x k0;have a:=(X 0).ex k0 S h (fu h0).2;refine ⟨?_,(h.vs ((Ywa F t 0).ex S h.s)).vs (Zla _ _ _ _),al.kind⟩;unfold condR;rw [Wm,al.kind,h1,Zeh,a];dsimp only;unfold wantS;rw [Ufa (b:=decide (((ckX F t 0).ex S).1.ty.kind=2)) (a:=(Za t 0).pos) (by rw [Qo]) h0];have e:condR (Za t 0) (ckX F t 0) S=(clnT (Za t 0),S):=by unfold condR;rw [h1];rfl
 rw [e];dsimp only;refine ⟨?_,h,rfl⟩;unfold condR;rw [Wvd,show (clnT (Za t 0)).kind=(Za t 0).kind from rfl,h1,Zfh,Wxc]
theorem Wrg(Z:∀ i,CkS (ckX F t i) (cN t i))(X:∀ i,Rn f F F' (Za t i) (ckX F t i))(hb:ifB t=true)(h:Vn S)(h0:(ifR t (ckX F t) S).2.ee=0) :
 ifR (renT f (ifR t (ckX F t) S).1) (ckX F' (renT f (ifR t (ckX F t) S).1)) (renS f S)=(renT f (ifR t (ckX F t) S).1,renS f (ifR t (ckX F t) S).2):=by
 obtain ⟨hl,k0,k1,k2⟩:=sh18 hb;obtain ⟨a,ea⟩:∃ a,a=condR (Za t 0) (ckX F t 0) S:=⟨_,rfl⟩;obtain ⟨b,eb⟩:∃ b,b=(ckX F t 1).blk a.2:=⟨_,rfl⟩;obtain ⟨c,ec⟩:∃ c,c=(bif decide ((Za t 2).kind=10) then (ckX F t 2).blk b.2 else bif decide ((Za t 2).kind=18) then (ckX F t 2).ifs b.2 else (clnT (Za t 2),b.2)):=⟨_,rfl⟩;have e:ifR t (ckX F t) S=(annT t [a.1,b.1,c.1] ty0,c.2):=by unfold ifR;rw [ec,eb,ea]
 rw [e] at h0 ⊢;dsimp only at h0 ⊢
 have hc:Er b.2 c.2:=by
  rw [ec];exact Er.if2 ((Z 2).blk _).e (Er.if2 ((Z 2).ifs _).e (Er.refl _))
 have zb:=hc.z h0;have za:a.2.ee=0:=Er.z (by rw [eb];exact ((Z 1).blk _).e) zb;obtain ⟨w,wt⟩:=Zga (f:=f) t [a.1,b.1,c.1] ty0;have wq:=w.ann wt [a.1,b.1,c.1] ty0;obtain ⟨t',e'⟩:∃ t',t'=renT f (annT t [a.1,b.1,c.1] ty0):=⟨_,rfl⟩;rw [← e'] at w wt wq ⊢;have x0:ckX F' t' 0=ckT F' (renT f a.1):=w.x (F':=F') (i:=0) (by show 0<3;omega);have x1:ckX F' t' 1=ckT F' (renT f b.1):=w.x (F':=F') (i:=1) (by show 1<3;omega);have x2:ckX F' t' 2=ckT F' (renT f c.1):=w.x (F':=F') (i:=2) (by show 2<3;omega);have q0:Za t' 0=renT f a.1:=w.kid 0;have q2:Za t' 2=renT f c.1:=w.kid 2;have A:=Vte (f:=f) (F':=F') X (.inr k0) h (by rw [← ea];exact za) rfl;rw [← ea] at A;have B:=(X 1).blk k1 a.2 A.2.1 (by rw [← eb];exact zb);rw [← eb] at B;have vb:Vn b.2:=A.2.1.vs (by rw [eb];exact (Ywa F t 1).blk _ A.2.1.s)
 have C:(bif decide ((Za t' 2).kind=10) then (ckX F' t' 2).blk (renS f b.2) else bif decide ((Za t' 2).kind=18) then (ckX F' t' 2).ifs (renS f b.2) else (clnT (Za t' 2),renS f b.2))=(renT f c.1,renS f c.2):=by
  rw [q2,x2,Wm];cases h3:decide ((Za t 2).kind=10);cases h4:decide ((Za t 2).kind=18);rw [h3,h4] at ec;have ec:c=(clnT (Za t 2),b.2):=ec;rw [ec];dsimp only;rw [show (clnT (Za t 2)).kind=(Za t 2).kind from rfl,h3,h4,Wvd,Wxc];rfl;rw [h3,h4] at ec;have ec:c=(ckX F t 2).ifs b.2:=ec;have h4':=Zch h4
  have k:ifB (Za t 2)=true:=by
   rcases k2 with q|q|q;rw [Uu q] at h4';cases h4';exact q;rw [(Vy q).1] at h4';cases h4'
  have al:Al c.1 (Za t 2):=by rw [ec,Xx O];exact (Wnc F _).ifs k _
  rw [al.kind,h3,h4];have:=(X 2).ifs k b.2 vb (by rw [← ec];exact h0);rw [← ec] at this;exact this;rw [h3] at ec;have ec:c=(ckX F t 2).blk b.2:=ec;have h3':=Zch h3
  have k:blockB (Za t 2)=true:=by
   rcases k2 with q|q|q;exact q;rw [show (Za t 2).kind=18 from Zch (Aea.1 q).1] at h3';cases h3';rw [(Vy q).1] at h3';cases h3'
  have al:Al c.1 (Za t 2):=by rw [ec,Xx O];exact (Wnc F _).blk k _
  rw [al.kind,h3];have:=(X 2).blk k b.2 vb (by rw [← ec];exact h0);rw [← ec] at this;exact this
 unfold ifR;dsimp only;rw [q0,x0,A.1];dsimp only;rw [x1,B];dsimp only;rw [C];dsimp only;rw [show [renT f a.1,renT f b.1,renT f c.1]=[a.1,b.1,c.1].map (renT f) from rfl,wq]
end
section
variable {f:List UInt8} {F F' t:Nd} {S:CSt}
theorem Jbg(Z:∀ i,CkS (ckX F t i) (cN t i))(X:∀ i,Rn f F F' (Za t i) (ckX F t i))(ht:t.kind=12)(hb:stmtB t=true)(h:Vn S)(h0:(asgR t (ckX F t) S).2.ee=0) :
 asgR (renT f (asgR t (ckX F t) S).1) (ckX F' (renT f (asgR t (ckX F t) S).1)) (renS f S)=(renT f (asgR t (ckX F t) S).1,renS f (asgR t (ckX F t) S).2):=by
 obtain ⟨hl,k0,k1⟩:=sh12 ht hb;obtain ⟨t',e'⟩:∃ t',t'=renT f (asgR t (ckX F t) S).1:=⟨_,rfl⟩;rw [← e'];unfold asgR at h0 e' ⊢;dsimp only at h0 e' ⊢;have z1:=(fu h0).2;have z2:=((Z 1).ex _).e.z z1
 exact Xog ((X 0).ex k0 S h (fu z2).2) (fun a=>((decide (a.kind=27) && !decide (a.ref=3)) || decide (a.kind=28)) || decide (a.kind=29)) (Za t 0).pos (Za t' 0).pos (by rw [Wm,Qpc]) z2
  ((X 1).ex k1 _ ((h.vs ((Ywa F t 0).ex S h.s)).vs (Zla _ _ _ _)) z1) (fun _ _=>ty0) rfl (fun a b=>Vg a.ty b.ty) (Za t 1).pos (Za t' 1).pos (by rw [Qo,Qo]) h0 e'
theorem Jcg(Z:∀ i,CkS (ckX F t i) (cN t i))(X:∀ i,Rn f F F' (Za t i) (ckX F t i))(hb:Xga t=true)(fi:Bool)(h:Vn S)(h0:(casR t (ckX F t) fi S).2.ee=0) :
 casR (renT f (casR t (ckX F t) fi S).1) (ckX F' (renT f (casR t (ckX F t) fi S).1)) fi (renS f S)=(renT f (casR t (ckX F t) fi S).1,renS f (casR t (ckX F t) fi S).2):=by
 obtain ⟨hk,hl,hc,hb1⟩:=sh23 hb;obtain ⟨a,ea⟩:∃ a,a=(bif decide ((Za t 0).kind=9) then (clnT (Za t 0),failU fi t.pos 6 (openS S)) else (ckX F t 0).st (openS S)):=⟨_,rfl⟩;obtain ⟨b,eb⟩:∃ b,b=(ckX F t 1).sts a.2:=⟨_,rfl⟩;have e:casR t (ckX F t) fi S=(annT t [a.1,b.1] ty0,shutS b.2):=by unfold casR;rw [eb,ea]
 rw [e] at h0 ⊢;dsimp only at h0 ⊢;have zb:b.2.ee=0:=h0;have za:a.2.ee=0:=Er.z (by rw [eb];exact ((Z 1).sts _).e) zb;obtain ⟨w,wt⟩:=Zga (f:=f) t [a.1,b.1] ty0;have wq:=w.ann wt [a.1,b.1] ty0;obtain ⟨t',e'⟩:∃ t',t'=renT f (annT t [a.1,b.1] ty0):=⟨_,rfl⟩;rw [← e'] at w wt wq ⊢;have x0:ckX F' t' 0=ckT F' (renT f a.1):=w.x (F':=F') (i:=0) (by show 0<2;omega);have x1:ckX F' t' 1=ckT F' (renT f b.1):=w.x (F':=F') (i:=1) (by show 1<2;omega);have q0:Za t' 0=renT f a.1:=w.kid 0
 have A:(bif decide ((Za t' 0).kind=9) then (clnT (Za t' 0),failU fi t'.pos 6 (openS (renS f S))) else (ckX F' t' 0).st (openS (renS f S)))=(renT f a.1,renS f a.2)∧Vn a.2:=by
  rw [q0,x0,Wm];have vo:Vn (openS S):=⟨h.n,Uua h.s⟩;cases h3:decide ((Za t 0).kind=9);rw [h3] at ea;have ea:a=(ckX F t 0).st (openS S):=ea;have k:=(Vrb hc).resolve_left (Zdh h3);have al:Al a.1 (Za t 0):=by rw [ea,Xx O];exact (Wnc F _).st k _
  have:=(X 0).st k _ vo (by rw [← ea];exact za);rw [← ea] at this;rw [al.kind,h3];exact this;rw [h3] at ea;have ea:a=(clnT (Za t 0),failU fi t.pos 6 (openS S)):=ea;rw [ea] at za ⊢;dsimp only at za ⊢;rw [show (clnT (Za t 0)).kind=(Za t 0).kind from rfl,h3,Wvd,Wxc,Zfh];exact ⟨Prod.ext rfl (Ufa (S:=openS S) (a:=t.pos) rfl za),vo.vs (Zla _ _ _ _)⟩
 have B:=((X 1).sts hb1 a.2 A.2 (by rw [← eb];exact zb)).1;rw [← eb] at B;unfold casR;dsimp only;rw [A.1];dsimp only;rw [x1,B];dsimp only;rw [Vre,show [renT f a.1,renT f b.1]=[a.1,b.1].map (renT f) from rfl,wq]
theorem Yeb(F t:Nd)(S:CSt):∀ i,(selA t (ckX F t) S i).1.length=i
 | 0=>rfl
 | i+1=>by rw [selA];dsimp only;rw [Aoa,Yeb F t S i];rfl
theorem Qzd(F t:Nd)(S:CSt)(i:Nat):∀ k,(selA t (ckX F t) S (i+1+k)).1.getD i nd0=((ckX F t i).cas (selA t (ckX F t) S i).2.1 (selA t (ckX F t) S i).2.2).1
 | 0=>by
  show (selA t (ckX F t) S (i+1)).1.getD i nd0=_;rw [selA];dsimp only;rw [Ada,Bia (by rw [Yeb];exact Aba _),Yeb,Bba];rfl
 | k+1=>by
  rw [← Ava,selA];dsimp only;rw [Ada,Bja (by rw [Yeb];omega),← Ada];exact Qzd F t S i k
theorem Vue(Z:∀ i,CkS (ckX F t i) (cN t i))(X:∀ i,Rn f F F' (Za t i) (ckX F t i))(hb:t.kids.all Xga=true)(h:Vn S){t':Nd}(w:Tw f t (selA t (ckX F t) S t.kids.length).1 t')(h0:(selA t (ckX F t) S t.kids.length).2.2.ee=0) :
  ∀ i,i≤t.kids.length→selA t' (ckX F' t') (renS f S) i=((selA t (ckX F t) S i).1.map (renT f),(selA t (ckX F t) S i).2.1,renS f (selA t (ckX F t) S i).2.2)∧Vn (selA t (ckX F t) S i).2.2
 | 0,_=>⟨rfl,h⟩
 | i+1,hi=>by
  obtain ⟨a,v⟩:=Vue Z X hb h w h0 i O
  have hz:(selA t (ckX F t) S (i+1)).2.2.ee=0:=by
   have e:=Xjd Z S (i+1) (t.kids.length-(i+1));rw [show i+1+(t.kids.length-(i+1))=t.kids.length by omega] at e;exact e.z h0
  have e:(selA t (ckX F t) S t.kids.length).1.getD i nd0=((ckX F t i).cas (selA t (ckX F t) S i).2.1 (selA t (ckX F t) S i).2.2).1:=by
   have:=Qzd F t S i (t.kids.length-(i+1));rwa [show i+1+(t.kids.length-(i+1))=t.kids.length by omega] at this
  have x1:=w.x (F':=F') (i:=i) (by rw [Yeb];omega);have k1:=w.kid i;rw [e] at x1 k1;have hc:=Xs hb (show i<t.kids.length by omega);have b:=(X i).cas hc (selA t (ckX F t) S i).2.1 _ v hz;have al:Al ((ckX F t i).cas (selA t (ckX F t) S i).2.1 (selA t (ckX F t) S i).2.2).1 (Za t i):=by rw [Xx O];exact (Wnc F _).cas hc _ _
  rw [selA,selA,a];dsimp only;rw [x1,b,k1,Xua,Wm,(al.kid 0).kind];dsimp only;rw [Afa];exact ⟨rfl,v.vs ((Ywa F t i).cas _ _ v.s)⟩
theorem Qcf(ks:List Nd)(k:Nat)(hk:t.kind=6∨t.kind=11):Tw f t ks (renT f (dclT t ks k))∧(renT f (dclT t ks k)).text=renN f t.text∧dclT (renT f (dclT t ks k)) (ks.map (renT f)) k=renT f (dclT t ks k):=by
 have hd:dclB (dclT t ks k)=true:=by
  unfold dclB;rw [show (dclT t ks k).kind=t.kind from rfl];rcases hk with h|h <;> rw [h] <;> rfl
 have hn:∀ x:Nd,x.kind=t.kind→numS x=0:=fun x hx=>by
  unfold numS Wj;rw [hx];rcases hk with h|h <;> rw [h] <;> rfl
 have tx:(renT f (dclT t ks k)).text=renN f t.text:=by rw [Zsc,Ztc rfl hd];rfl
 refine ⟨⟨Wm _,Wsd _,by rw [hn (renT f (dclT t ks k)) (Wm _),hn t rfl],Zfa _⟩,tx,?_⟩;rw [show dclT (renT f (dclT t ks k)) (ks.map (renT f)) k = .mk (renT f (dclT t ks k)).kind (renT f (dclT t ks k)).text k (renT f (dclT t ks k)).pos (ks.map (renT f)) ty0 1 0 from rfl,Wm,Wsd,tx,Qr f (dclT t ks k),Ztc rfl hd];rfl
theorem Jdg(H:FlX F F')(Z:∀ i,CkS (ckX F t i) (cN t i))(X:∀ i,Rn f F F' (Za t i) (ckX F t i))(hn:t.text≠rnN)(ht:t.kind=6)(hb:varB t=true)(h:Vn S)(h0:(varR F t (ckX F t) S).2.ee=0) :
 varR F' (renT f (varR F t (ckX F t) S).1) (ckX F' (renT f (varR F t (ckX F t) S).1)) (renS f S)=(renT f (varR F t (ckX F t) S).1,renS f (varR F t (ckX F t) S).2)∧Vn (varR F t (ckX F t) S).2:=by
 obtain ⟨_,hl,k0,k1⟩:=sh6 hb;obtain ⟨a,ea⟩:∃ a,a=(bif decide ((Za t 1).kind=9) then (clnT (Za t 1),localS F (Za t 0) S) else (((ckX F t 1).ex (localS F (Za t 0) S)).1,failU (Vg (ofF (Za t 0)).1 ((ckX F t 1).ex (localS F (Za t 0) S)).1.ty) (Za t 1).pos 7 ((ckX F t 1).ex (localS F (Za t 0) S)).2)):=⟨_,rfl⟩;have e:varR F t (ckX F t) S=(dclT t [plainT (Za t 0),a.1] (declN a.2),declS t.text (ofF (Za t 0)).1 t.pos a.2):=by unfold varR;rw [ea]
 rw [e] at h0 ⊢;dsimp only at h0 ⊢;have za:a.2.ee=0:=((Er.refl _).decl _ _ _:Er _ (declS t.text (ofF (Za t 0)).1 t.pos a.2)).z h0;obtain ⟨w,wt,wq⟩:=Qcf (f:=f) (t:=t) [plainT (Za t 0),a.1] (declN a.2) (.inl ht);obtain ⟨t',e'⟩:∃ t',t'=renT f (dclT t [plainT (Za t 0),a.1] (declN a.2)):=⟨_,rfl⟩;rw [← e'] at w wt wq ⊢;have x1:ckX F' t' 1=ckT F' (renT f a.1):=w.x (F':=F') (i:=1) (by show 1<2;omega);have q0:Za t' 0=plainT (Za t 0):=(w.kid 0).trans (Qx _);have q1:Za t' 1=renT f a.1:=w.kid 1;have vl:Vn (localS F (Za t 0) S):=h.vs (Jo F _ S)
 have A:(bif decide ((Za t' 1).kind=9) then (clnT (Za t' 1),localS F' (Za t' 0) (renS f S)) else (((ckX F' t' 1).ex (localS F' (Za t' 0) (renS f S))).1,failU (Vg (ofF (Za t' 0)).1 ((ckX F' t' 1).ex (localS F' (Za t' 0) (renS f S))).1.ty) (Za t' 1).pos 7 ((ckX F' t' 1).ex (localS F' (Za t' 0) (renS f S))).2))=(renT f a.1,renS f a.2)∧Vn a.2:=by
  rw [q0,q1,x1,Wm,Xqc H,Vgb];cases h3:decide ((Za t 1).kind=9);rw [h3] at ea;have ea:a=(((ckX F t 1).ex (localS F (Za t 0) S)).1,failU (Vg (ofF (Za t 0)).1 ((ckX F t 1).ex (localS F (Za t 0) S)).1.ty) (Za t 1).pos 7 ((ckX F t 1).ex (localS F (Za t 0) S)).2):=ea;have k:=k1.resolve_left fun q=>Zdh h3 (Vy q).1;have al:Al ((ckX F t 1).ex (localS F (Za t 0) S)).1 (Za t 1):=al_x k;rw [ea] at za ⊢;dsimp only at za ⊢;have B:=(X 1).ex k _ vl (fu za).2;rw [al.kind,h3,Zeh,B];dsimp only;exact ⟨Prod.ext rfl (Ufa (by rw [Qo]) za),(vl.vs ((Ywa F t 1).ex _ vl.s)).vs (Zla _ _ _ _)⟩;rw [h3] at ea;have ea:a=(clnT (Za t 1),localS F (Za t 0) S):=ea;rw [ea];dsimp only;rw [show (clnT (Za t 1)).kind=(Za t 1).kind from rfl,h3,Wvd,Wxc,Zfh];exact ⟨rfl,vl⟩
 refine ⟨?_,A.2.decl hn _ _⟩;unfold varR;dsimp only;rw [A.1];dsimp only;rw [q0,Vgb,wt,w.pos,Wud A.2 hn,Zea];have e2:declN (renS f a.2)=declN a.2:=rfl;rw [e2,show [plainT (Za t 0),renT f a.1]=[plainT (Za t 0),a.1].map (renT f) by rw [Asa,Qx];rfl,wq]
theorem Jeg(Z:∀ i,CkS (ckX F t i) (cN t i))(X:∀ i,Rn f F F' (Za t i) (ckX F t i))(hn:t.text≠rnN)(ht:t.kind=11)(hb:stmtB t=true)(h:Vn S)(h0:(defR t (ckX F t) S).2.ee=0) :
 defR (renT f (defR t (ckX F t) S).1) (ckX F' (renT f (defR t (ckX F t) S).1)) (renS f S)=(renT f (defR t (ckX F t) S).1,renS f (defR t (ckX F t) S).2)∧Vn (defR t (ckX F t) S).2:=by
 obtain ⟨_,hl,k0⟩:=sh11 ht hb;obtain ⟨T,eT⟩:∃ T,T=failU (Vl ((ckX F t 0).ex S).1.ty) (Za t 0).pos 7 ((ckX F t 0).ex S).2:=⟨_,rfl⟩;have e:defR t (ckX F t) S=(dclT t [((ckX F t 0).ex S).1] (declN T),declS t.text ((ckX F t 0).ex S).1.ty t.pos T):=by unfold defR;rw [eT]
 rw [e] at h0 ⊢;dsimp only at h0 ⊢;have zT:T.ee=0:=((Er.refl _).decl _ _ _:Er _ (declS t.text ((ckX F t 0).ex S).1.ty t.pos T)).z h0;have zT':=zT;rw [eT] at zT';have A:=(X 0).ex k0 S h (fu zT').2;have vT:Vn T:=by rw [eT];exact (h.vs ((Ywa F t 0).ex S h.s)).vs (Zla _ _ _ _)
 obtain ⟨w,wt,wq⟩:=Qcf (f:=f) (t:=t) [((ckX F t 0).ex S).1] (declN T) (.inr ht);obtain ⟨t',e'⟩:∃ t',t'=renT f (dclT t [((ckX F t 0).ex S).1] (declN T)):=⟨_,rfl⟩;rw [← e'] at w wt wq ⊢;have x0:ckX F' t' 0=ckT F' (renT f ((ckX F t 0).ex S).1):=w.x (F':=F') (i:=0) (by show 0<1;omega);refine ⟨?_,vT.decl hn _ _⟩;unfold defR;dsimp only;rw [x0,A];dsimp only;rw [Qo,Ufa (b:=Vl ((ckX F t 0).ex S).1.ty) (a:=(Za t 0).pos) rfl zT',← eT,wt,w.pos,Wud vT hn,show declN (renS f T)=declN T from rfl,show [renT f ((ckX F t 0).ex S).1]=[((ckX F t 0).ex S).1].map (renT f) from rfl,wq]
theorem Jfg(Z:∀ i,CkS (ckX F t i) (cN t i))(X:∀ i,Rn f F F' (Za t i) (ckX F t i))(ht:t.kind=19)(hb:stmtB t=true)(h:Vn S)(h0:(forR t (ckX F t) S).2.ee=0) :
 forR (renT f (forR t (ckX F t) S).1) (ckX F' (renT f (forR t (ckX F t) S).1)) (renS f S)=(renT f (forR t (ckX F t) S).1,renS f (forR t (ckX F t) S).2):=by
 obtain ⟨hl,k0,k1⟩:=sh19 ht hb;obtain ⟨a,ea⟩:∃ a,a=condR (Za t 0) (ckX F t 0) S:=⟨_,rfl⟩;obtain ⟨b,eb⟩:∃ b,b=(ckX F t 1).blk a.2:=⟨_,rfl⟩;have e:forR t (ckX F t) S=(annT t [a.1,b.1] ty0,b.2):=by unfold forR;rw [eb,ea]
 rw [e] at h0 ⊢;dsimp only at h0 ⊢;have za:a.2.ee=0:=Er.z (by rw [eb];exact ((Z 1).blk _).e) h0;obtain ⟨w,wt⟩:=Zga (f:=f) t [a.1,b.1] ty0;have wq:=w.ann wt [a.1,b.1] ty0;obtain ⟨t',e'⟩:∃ t',t'=renT f (annT t [a.1,b.1] ty0):=⟨_,rfl⟩;rw [← e'] at w wt wq ⊢;have x0:ckX F' t' 0=ckT F' (renT f a.1):=w.x (F':=F') (i:=0) (by show 0<2;omega);have x1:ckX F' t' 1=ckT F' (renT f b.1):=w.x (F':=F') (i:=1) (by show 1<2;omega);have q0:Za t' 0=renT f a.1:=w.kid 0;have A:=Vte (f:=f) (F':=F') X k0 h (by rw [← ea];exact za) rfl;rw [← ea] at A;have B:=(X 1).blk k1 a.2 A.2.1 (by rw [← eb];exact h0);rw [← eb] at B;unfold forR;dsimp only;rw [q0,x0,A.1];dsimp only;rw [x1,B];dsimp only;rw [show [renT f a.1,renT f b.1]=[a.1,b.1].map (renT f) from rfl,wq]
theorem Jgg(Z:∀ i,CkS (ckX F t i) (cN t i))(X:∀ i,Rn f F F' (Za t i) (ckX F t i))(ht:t.kind=20)(hb:stmtB t=true)(h:Vn S)(h0:(retR t (ckX F t) S).2.ee=0) :
 retR (renT f (retR t (ckX F t) S).1) (ckX F' (renT f (retR t (ckX F t) S).1)) (renS f S)=(renT f (retR t (ckX F t) S).1,renS f (retR t (ckX F t) S).2):=by
 obtain ⟨h1,h2⟩:=sh20 ht hb;obtain ⟨T,eT⟩:∃ T,T=failU (!Baa (decide ((t.kids.length:Int)=1)) (!tyEqB S.result ty0)) t.pos 7 S:=⟨_,rfl⟩;have vT:Vn T:=by rw [eT];exact h.vs (Zla _ _ _ _)
 cases h3:decide ((t.kids.length:Int)=1);have e:retR t (ckX F t) S=(annT t [] ty0,T):=by unfold retR;rw [h3,eT,h3];rfl
 rw [e] at h0 ⊢;dsimp only at h0 ⊢;rw [eT] at h0;obtain ⟨w,wt⟩:=Zga (f:=f) t [] ty0;have hl:(renT f (annT t [] ty0)).kids.length=0:=w.len;unfold retR;dsimp only;rw [hl];show (annT (renT f (annT t [] ty0)) [] ty0,failU (!Baa (decide (((0:Nat):Int)=1)) (!tyEqB S.result ty0)) _ 7 (renS f S))=_;rw [Qqc,Ufa (b:=!Baa (decide ((t.kids.length:Int)=1)) (!tyEqB S.result ty0)) (a:=t.pos) (by rw [h3];rfl) h0,eT];have e:retR t (ckX F t) S=(annT t [((ckX F t 0).ex T).1] ty0,failU (Vg ((ckX F t 0).ex T).2.result ((ckX F t 0).ex T).1.ty) (Za t 0).pos 7 ((ckX F t 0).ex T).2):=by unfold retR;rw [h3,eT,h3];rfl
 rw [e] at h0 ⊢;dsimp only at h0 ⊢;have h3':=Zch h3;have z1:=(fu h0).2;have zT:T.ee=0:=((Z 0).ex T).e.z z1;have A:=(X 0).ex (Xs h2 O) T vT z1;rw [eT] at zT;obtain ⟨w,wt⟩:=Zga (f:=f) t [((ckX F t 0).ex T).1] ty0;have wq:=w.ann wt [((ckX F t 0).ex T).1] ty0;obtain ⟨t',e'⟩:∃ t',t'=renT f (annT t [((ckX F t 0).ex T).1] ty0):=⟨_,rfl⟩;rw [← e'] at w wt wq ⊢;have x0:ckX F' t' 0=ckT F' (renT f ((ckX F t 0).ex T).1):=w.x (F':=F') (i:=0) (by show 0<1;omega);have hl:t'.kids.length=1:=w.len;unfold retR;dsimp only;rw [hl];simp only [show decide (((1:Nat):Int)=1)=true from rfl,Zfh];rw [Ufa (b:=!Baa (decide ((t.kids.length:Int)=1)) (!tyEqB S.result ty0)) (a:=t.pos) (b':=!Baa true (!tyEqB (renS f S).result ty0)) (by rw [h3];rfl) zT,← eT,x0,A];dsimp only;rw [Ufa (b:=Vg ((ckX F t 0).ex T).2.result ((ckX F t 0).ex T).1.ty) (a:=(Za t 0).pos) (by rw [Qo];rfl) h0,show [renT f ((ckX F t 0).ex T).1]=[((ckX F t 0).ex T).1].map (renT f) from rfl,wq]
theorem Qdf(hb:stmtB t=true):(renT f (stR F t (ckX F t) S).1).kind=t.kind:=by
 rw [Wm];have q:=(Wnc F t).st hb S;rw [Vm] at q;exact q.kind
theorem rn_st(H:FlX F F')(Z:∀ i,CkS (ckX F t i) (cN t i))(X:∀ i,Rn f F F' (Za t i) (ckX F t i))(hn:t.text≠rnN)(hb:stmtB t=true)(h:Vn S)(h0:(stR F t (ckX F t) S).2.ee=0) :
 stR F' (renT f (stR F t (ckX F t) S).1) (ckX F' (renT f (stR F t (ckX F t) S).1)) (renS f S)=(renT f (stR F t (ckX F t) S).1,renS f (stR F t (ckX F t) S).2)∧Vn (stR F t (ckX F t) S).2:=by
 have hk:=Qdf (f:=f) (F:=F) (S:=S) hb;have Y:=Ywa F t
 have hv:t.kind≠6→t.kind≠11→Vs S (stR F t (ckX F t) S).2:=fun h6 h11=>by
  unfold stR;dsimp only;cases decide (t.kind=10);case true=>exact Qtb Y h.s
  cases decide (t.kind=18);case true=>exact Vtd Y h.s
  cases decide (t.kind=12);case true=>exact Xdd Y h.s
  cases decide (t.kind=22);case true=>exact Yxb Y h.s _
  rw [Jxg h6,Jxg h11];cases decide (t.kind=19);case true=>exact Xed Y h.s
  cases decide (t.kind=20);case true=>exact Xfd Y h.s
  have v:=(Y 0).ex S h.s;simp only [Zeh,wantS];cases decide (t.kind=16);case true=>exact (Vs.ex Y (v.failu _ _ _) h.s 1).failu _ _ _
  cases decide (t.kind=17);case true=>exact v.failu _ _ _
  cases decide (t.kind=21);case true=>exact v.failu _ _ _
  exact v
 obtain ⟨t',e'⟩:∃ t',t'=renT f (stR F t (ckX F t) S).1:=⟨_,rfl⟩;rw [← e'] at hk ⊢;cases h6:decide (t.kind=6)
 case true =>
  have h6:=Zch h6;have e:stR F t (ckX F t) S=varR F t (ckX F t) S:=by unfold stR;rw [h6];rfl
  have e2:stR F' t' (ckX F' t') (renS f S)=varR F' t' (ckX F' t') (renS f S):=by unfold stR;rw [hk,h6];rfl
  rw [e] at h0 e' ⊢;rw [e2,e'];exact Jdg H Z X hn h6 (sh6s h6 hb) h h0
 cases h11:decide (t.kind=11)
 case true =>
  have h11:=Zch h11;have e:stR F t (ckX F t) S=defR t (ckX F t) S:=by unfold stR;rw [h11];rfl
  have e2:stR F' t' (ckX F' t') (renS f S)=defR t' (ckX F' t') (renS f S):=by unfold stR;rw [hk,h11];rfl
  rw [e] at h0 e' ⊢;rw [e2,e'];exact Jeg Z X hn h11 hb h h0
 refine ⟨?_,h.vs (hv (Zdh h6) (Zdh h11))⟩;unfold stR at h0 e' ⊢;dsimp only at h0 e' ⊢;rw [hk];rw [h6,h11] at h0 e' ⊢;cases h10:decide (t.kind=10);case true=>rw [h10] at h0 e';rw [e'];exact Qbf Z X (sh10s (Zch h10) hb) h h0
 rw [h10] at h0 e';cases h18:decide (t.kind=18);case true=>rw [h18] at h0 e';rw [e'];exact Wrg Z X (sh18s (Zch h18) hb) h h0
 rw [h18] at h0 e';cases h12:decide (t.kind=12);case true=>rw [h12] at h0 e';rw [e'];exact Jbg Z X (Zch h12) hb h h0
 rw [h12] at h0 e';cases h22:decide (t.kind=22)
 case true =>
  rw [h22] at h0 e';have e':t'=renT f (annT t (selA t (ckX F t) S t.kids.length).1 ty0):=e';obtain ⟨w,wt⟩:=Zga (f:=f) t (selA t (ckX F t) S t.kids.length).1 ty0;have wq:=w.ann wt (selA t (ckX F t) S t.kids.length).1 ty0;rw [← e'] at w wt wq;have hl:t'.kids.length=t.kids.length:=by rw [w.len,Yeb]
  have a:=(Vue Z X (sh22 (Zch h22) hb) h w h0 _ (Aba _)).1;simp only [Zfh,Zeh];unfold selR;rw [hl,a];dsimp only;rw [wq]
 rw [h22] at h0 e';cases h19:decide (t.kind=19);case true=>rw [h19] at h0 e';rw [e'];exact Jfg Z X (Zch h19) hb h h0
 rw [h19] at h0 e';cases h20:decide (t.kind=20);case true=>rw [h20] at h0 e';rw [e'];exact Jgg Z X (Zch h20) hb h h0
 rw [h20] at h0 e';simp only [Zeh,wantS] at h0 e' ⊢;cases h16:decide (t.kind=16)
 case true =>
  rw [h16] at h0 e';obtain ⟨hl,k0,k1⟩:=sh16 (Zch h16) hb;have z1:=(fu h0).2;have z2:=((Z 1).ex _).e.z z1;exact Xog ((X 0).ex k0 S h (fu z2).2) (fun a=>decide (a.ty.kind=6)) (Za t 0).pos (Za t' 0).pos (by rw [Qo]) z2 ((X 1).ex k1 _ ((h.vs ((Y 0).ex S h.s)).vs (Zla _ _ _ _)) z1) (fun _ _=>ty0) rfl (fun _ b=>decide (b.ty.kind=1)) (Za t 1).pos (Za t' 1).pos (by rw [Qo]) h0 e'
 rw [h16] at h0 e';simp only [Zbh] at h10 h18 h12 h22 h6 h11 h19 h20 h16;obtain ⟨hl,k0⟩:=Wpd hb h10 h18 h12 h22 h6 h11 h19 h20 h16;have A:=fun z=>(X 0).ex k0 S h z;cases h17:decide (t.kind=17);case true=>rw [h17] at h0 e';exact Qyd (A (fu h0).2) ty0 (fun a=>decide (a.ty.kind=6)) (Za t 0).pos (Za t' 0).pos (by rw [Qo]) h0 e'
 rw [h17] at h0 e';cases h21:decide (t.kind=21);case true=>rw [h21] at h0 e';exact Qyd (A (fu h0).2) ty0 (fun a=>decide (a.ty.kind=1) || decide (a.ty.kind=2)) (Za t 0).pos (Za t' 0).pos (by rw [Qo]) h0 e'
 rw [h21] at h0 e';exact Qyd (A h0) ty0 (fun _=>true) 0 0 rfl h0 e'
theorem rn_f(H:FlX F F')(Z:∀ i,CkS (ckX F t i) (cN t i))(X:∀ i,Rn f F F' (Za t i) (ckX F t i))(hn:t.text≠rnN):Rn f F F' t (ckF F t (ckX F t)):=by
 refine ⟨fun hx S h h0=>?_,fun ht hx S h h0=>?_,fun hx S h hr=>?_,fun hx S h hr h0=>?_,fun ht S=>?_,fun S hr=>?_,fun hx S h h0=>?_,fun hb S h h0=>?_,fun hb S h h0=>?_,fun hb S h h0=>?_,fun hb S h h0=>?_,fun hb b S h h0=>?_⟩;rw [Vm];exact Wqg H Z X hn hx h h0;rw [Vm];exact Wwd H Z X ht hx h h0;rw [Vm];exact Qxg H Z X hn hx h hr;rw [Vm];exact Qzg H Z X hn hx h hr h0;show (rcvR F t (ckX F t) S).1=(memR F t (ckX F t) S).1.1;unfold rcvR;rw [ht];rfl;have hr:(rcvR F t (ckX F t) S).2=true:=hr;show (rcvR F t (ckX F t) S).1.kind=t.kind;unfold rcvR at hr ⊢;cases h27:decide (t.kind=27);rw [h27] at hr;cases h28:decide (t.kind=28);rw [h28] at hr;cases hr;show (memR F t (ckX F t) S).1.1.kind=t.kind;unfold memR;dsimp only;cases decide (((ckX F t 0).ex S).1.ty.kind=4);rfl;simp only [Zfh];split <;> rfl
 show (lookR F S t).1.kind=t.kind;unfold lookR;split;rfl;cases decide (0≤(findD F 6 t.text).2);cases decide (0≤(findD F 4 t.text).2) <;> rfl
 rfl;rw [Vm];exact Jag H Z X hn hx h h0;rw [Vm];exact rn_st H Z X hn hb h h0;rw [Vm];exact Qbf Z X hb h h0;rw [Vm];exact Wrg Z X hb h h0;rw [Vm];exact Qaf Z X hb h h0;rw [Vm];exact Jcg Z X hb b h h0
theorem rn_0:Rn f F F' nd0 ck0:=by
 refine ⟨fun h=>?_,fun h=>?_,fun h=>?_,fun h=>?_,fun h=>?_,fun S h=>(by cases h),fun h=>?_,fun h=>?_,fun h=>?_,fun h=>?_,fun h=>?_,fun h=>?_⟩ <;> exact absurd h Od
theorem rn_t(H:FlX F F'):∀ t,Tn t→Rn f F F' t (ckT F t):=by
 refine Nd.ind fun t ih hn=>?_;rw [Vm];refine rn_f H (Xeb F t) (fun i=>?_) hn.self;by_cases hi:i<t.kids.length;have:=hn.kid i;rw [Xx hi];rw [Yj hi] at this ⊢;exact ih _ (Aha hi) this;rw [Zrc hi,Jca hi];exact rn_0
end
/-! declarations, files -/
section
variable {f:List UInt8} {F F':Nd} {S:CSt}
theorem Jda(F p:Nd)(S:CSt):∀ i,(parA F p S i).1.length=i
 | 0=>rfl
 | i+1=>by rw [parA];dsimp only;rw [Aoa,Jda F p S i];rfl
theorem Qsc(F p:Nd)(S:CSt)(i:Nat):∀ k,(parA F p S (i+1+k)).1.getD i nd0 = .mk (Za p i).kind (Za p i).text (declN (parA F p S i).2) (Za p i).pos ((Za p i).kids.map plainT) ty0 1 0
 | 0=>by
  show (parA F p S (i+1)).1.getD i nd0=_;rw [parA];dsimp only;rw [Ada,Bia (by rw [Jda];exact Aba _),Jda,Bba];rfl
 | k+1=>by
  rw [← Ava,parA];dsimp only;rw [Ada,Bja (by rw [Jda];omega),← Ada];exact Qsc F p S i k
theorem Qef{n:Nat}(H:FlX F F'){p p':Nd}(hp:∀ f∈p.kids,f.kind=3)(hn:Tn p)(h:Vn S)(w:Tw f p (parA F p S p.kids.length).1 p') :
  ∀ i,i≤p.kids.length→parA F' p' (renS f S) i=((parA F p S i).1.map (renT f),renS f (parA F p S i).2)∧Vn (parA F p S i).2
 | 0,_=>⟨rfl,h⟩
 | i+1,hi=>by
  obtain ⟨a,v⟩:=Qef (n:=n) H hp hn h w i O
  have e:(parA F p S p.kids.length).1.getD i nd0 = .mk (Za p i).kind (Za p i).text (declN (parA F p S i).2) (Za p i).pos ((Za p i).kids.map plainT) ty0 1 0:=by
   have:=Qsc F p S i (p.kids.length-(i+1));rwa [show i+1+(p.kids.length-(i+1))=p.kids.length by omega] at this
  have k1:=w.kid i;rw [e] at k1;have hk:(Za p i).kind=3:=hp _ (by rw [Yj (show i<p.kids.length by omega)];exact Aha _);have ht:=(hn.kid i).self;have hd:dclB (.mk (Za p i).kind (Za p i).text (declN (parA F p S i).2) (Za p i).pos ((Za p i).kids.map plainT) ty0 1 0)=true:=by unfold dclB;rw [show (Nd.mk (Za p i).kind (Za p i).text (declN (parA F p S i).2) (Za p i).pos ((Za p i).kids.map plainT) ty0 1 0).kind=3 from hk];rfl
  rw [Qr,Ztc rfl hd] at k1;have k1:Za p' i = .mk (Za p i).kind (renN f (Za p i).text) (declN (parA F p S i).2) (Za p i).pos (((Za p i).kids.map plainT).map (renT f)) ty0 1 0:=k1
  have ek:((Za p i).kids.map plainT).map (renT f)=(Za p i).kids.map plainT:=by
   rw [Ala];exact Ana fun k _=>Qx k
  rw [ek] at k1
  have k2:Za (Za p' i) 0=plainT (Za (Za p i) 0):=by
   rw [k1];unfold Za;exact Vfb plainT _ 0 nd0 nd0 Yme
  have e3:((Za p i).kids.map plainT).map plainT=(Za p i).kids.map plainT:=by rw [Ala];exact Ana fun k _=>Zea k
  rw [parA,parA,a];dsimp only
  have l1:localS F' (Za (Za p' i) 0) (declS (Za p' i).text (ofF (Za (Za p' i) 0)).1 (Za p' i).pos (renS f (parA F p S i).2))=renS f (localS F (Za (Za p i) 0) (declS (Za p i).text (ofF (Za (Za p i) 0)).1 (Za p i).pos (parA F p S i).2)):=by
   rw [k2,k1,Vgb,show (Nd.mk (Za p i).kind (renN f (Za p i).text) (declN (parA F p S i).2) (Za p i).pos ((Za p i).kids.map plainT) ty0 1 0).text=renN f (Za p i).text from rfl,show (Nd.mk (Za p i).kind (renN f (Za p i).text) (declN (parA F p S i).2) (Za p i).pos ((Za p i).kids.map plainT) ty0 1 0).pos=(Za p i).pos from rfl,Wud v ht,Xqc H]
  have l2:Nd.mk (Za p' i).kind (Za p' i).text (declN (renS f (parA F p S i).2)) (Za p' i).pos ((Za p' i).kids.map plainT) ty0 1 0=renT f (.mk (Za p i).kind (Za p i).text (declN (parA F p S i).2) (Za p i).pos ((Za p i).kids.map plainT) ty0 1 0):=by
   rw [k1,Qr,Ztc rfl hd];show Nd.mk (Za p i).kind (renN f (Za p i).text) (declN (parA F p S i).2) (Za p i).pos (((Za p i).kids.map plainT).map plainT) ty0 1 0=Nd.mk (Za p i).kind (renN f (Za p i).text) (declN (parA F p S i).2) (Za p i).pos (((Za p i).kids.map plainT).map (renT f)) ty0 1 0;rw [e3,ek]
  refine ⟨?_,(v.decl ht _ _).vs (Jo F _ _)⟩;rw [l1,l2,Afa];rfl
theorem Jhg(H:FlX F F'){n:Nd}(hk:n.kind=4)(hp:permF n=true)(hn:Tn n)(h0:(funR F n S).2.ee=0):funR F' (renT f (funR F n S).1) (renS f S)=(renT f (funR F n S).1,renS f (funR F n S).2):=by
 obtain ⟨hl,⟨p1,p2⟩,hr,b1,b2⟩:=pf4 hk hp;obtain ⟨P,eP⟩:∃ P,P=parA F (Za n 0) (funS0 S) (Za n 0).kids.length:=⟨_,rfl⟩;obtain ⟨b,eb⟩:∃ b,b=(ckT F (Za n 2)).sts (funS2 F n S):=⟨_,rfl⟩;have e:funR F n S=(annT n [annT (Za n 0) P.1 ty0,plainT (Za n 1),b.1] ty0,failU (decide ((Za n 1).kind=9) || endsL (Za n 2).kids) n.pos 7 b.2):=by unfold funR;rw [eP,eb]
 rw [e] at h0 ⊢;dsimp only at h0 ⊢;have zb:=(fu h0).2;obtain ⟨w,wt⟩:=Zga (f:=f) n [annT (Za n 0) P.1 ty0,plainT (Za n 1),b.1] ty0;have wq:=w.ann wt [annT (Za n 0) P.1 ty0,plainT (Za n 1),b.1] ty0;obtain ⟨n',e'⟩:∃ n',n'=renT f (annT n [annT (Za n 0) P.1 ty0,plainT (Za n 1),b.1] ty0):=⟨_,rfl⟩;rw [← e'] at w wt wq ⊢;have q0:Za n' 0=renT f (annT (Za n 0) P.1 ty0):=w.kid 0;have q1:Za n' 1=plainT (Za n 1):=(w.kid 1).trans (Qx _);have q2:Za n' 2=renT f b.1:=w.kid 2;obtain ⟨v,vt⟩:=Zga (f:=f) (Za n 0) P.1 ty0;have vq:=v.ann vt P.1 ty0;rw [← q0] at v vt vq;have vl:(Za n' 0).kids.length=(Za n 0).kids.length:=by rw [v.len,eP,Jda]
 have A:=Qef (n:=0) (f:=f) H (S:=funS0 S) (fun g hg=>(Yna (.inr p1) p2 g hg).1) (hn.kid 0) ⟨fun x hx=>(by cases hx),Qqg S⟩ (by rw [← eP];exact v) _ (Aba _);rw [← eP] at A
 have s1:funS1 F' n' (renS f S)=renS f (funS1 F n S):=by
  unfold funS1;rw [vl,show funS0 (renS f S)=renS f (funS0 S) from rfl,A.1,← eP];rfl
 have v1:Vn (funS1 F n S):=by
  unfold funS1;rw [← eP];exact ⟨A.2.n,A.2.s⟩
 have s2:funS2 F' n' (renS f S)=renS f (funS2 F n S)∧Vn (funS2 F n S):=by
  unfold funS2;rw [q1,Zwa,Vgb,s1,Xqc H];cases decide ((Za n 1).kind=9);have q:=v1.vs (Jo F (Za n 1) (funS1 F n S));exact ⟨rfl,q.n,q.s⟩;exact ⟨rfl,v1⟩
 have bb:blockB (Za n 2)=true:=by unfold blockB;rw [b1,b2];rfl
 have B:=((rn_t (f:=f) H _ (hn.kid 2)).sts bb _ s2.2 (by rw [← eb];exact zb)).1;rw [← eb] at B;have al:Al b.1 (Za n 2):=by rw [eb];exact (Wnc F (Za n 2)).sts bb _
 have ends:endsL (Za n' 2).kids=endsL (Za n 2).kids:=by rw [← Ywc,← Ywc,q2,Qvg,al.ends]
 unfold funR;dsimp only;rw [s2.1,ends,vl,show funS0 (renS f S)=renS f (funS0 S) from rfl,A.1,q1,Zwa,Zea,q2,B];dsimp only;rw [vq,Ufa (b:=decide ((Za n 1).kind=9) || endsL (Za n 2).kids) (a:=n.pos) rfl h0]
 have ek:[Za n' 0,plainT (Za n 1),renT f b.1]=[annT (Za n 0) P.1 ty0,plainT (Za n 1),b.1].map (renT f):=by
  rw [Asa,Asa,Qx,q0];rfl
 rw [ek,wq]
theorem Qff(H:FlX F F')(n:Nd):∀ i,strA F' (plainT n) (renS f S) i=renS f (strA F n S i)
 | 0=>rfl
 | i+1=>by
  rw [strA,strA,Qff H n i,Uxg,Ycb,Jt,Jt,Xnc];exact Qyb H (Zwa _) (Wma _) (Xnc _) _
theorem Yse{F n:Nd}{S:CSt}(h:n.kind=2):dclR F n S=(plainT n,strA F n S n.kids.length):=by unfold dclR;rw [Jyg h];rfl
theorem Yte{F n:Nd}{S:CSt}(h:n.kind=6):dclR F n S=(plainT n,pointerS F (Za n 0) S):=by unfold dclR;rw [Jyg h,Jxg (show ¬ n.kind=2 by omega)];rfl
theorem Yue{F n:Nd}{S:CSt}(h:n.kind=4):dclR F n S=funR F n S:=by unfold dclR;rw [Jyg h,Jxg (show ¬ n.kind=2 by omega),Jxg (show ¬ n.kind=6 by omega)];rfl
theorem Yve{F n:Nd}{S:CSt}(h2:n.kind≠2)(h6:n.kind≠6)(h4:n.kind≠4):dclR F n S=(plainT n,S):=by unfold dclR;rw [Jxg h2,Jxg h6,Jxg h4];rfl
theorem Jig(H:FlX F F'){n:Nd}(hp:permF n=true)(hn:Tn n)(h0:(dclR F n S).2.ee=0):dclR F' (renT f (dclR F n S).1) (renS f S)=(renT f (dclR F n S).1,renS f (dclR F n S).2):=by
 have pk:(plainT n).kind=n.kind:=Zwa n;by_cases h2:n.kind=2;rw [Yse h2];dsimp only;rw [Qx,Yse (pk.trans h2),Zea,Zub,Qff H];by_cases h6:n.kind=6;rw [Yte h6];dsimp only;rw [Qx,Yte (pk.trans h6),Zea,Jt,Qyb H (Zwa _) (Wma _) (Xnc _)];by_cases h4:n.kind=4;rw [Yue h4] at h0 ⊢;have k:(renT f (funR F n S).1).kind=4:=by rw [Wm];exact h4
 rw [Yue k];exact Jhg H h4 hp hn h0;rw [Yve h2 h6 h4];dsimp only;rw [Qx,Yve (by rw [pk];exact h2) (by rw [pk];exact h6) (by rw [pk];exact h4),Zea]
theorem Yfb(F:Nd)(S:CSt):∀ i,(dclA F S i).1.length=i
 | 0=>rfl
 | i+1=>by rw [dclA];dsimp only;rw [Aoa,Yfb F S i];rfl
theorem Qtc(F:Nd)(S:CSt)(i:Nat):∀ k,(dclA F S (i+1+k)).1.getD i nd0=(dclR F (Za F i) (dclA F S i).2).1
 | 0=>by
  show (dclA F S (i+1)).1.getD i nd0=_;rw [dclA];dsimp only;rw [Ada,Bia (by rw [Yfb];exact Aba _),Yfb,Bba];rfl
 | k+1=>by
  rw [← Ava,dclA];dsimp only;rw [Ada,Bja (by rw [Yfb];omega),← Ada];exact Qtc F S i k
theorem Vve(H:FlX F F')(hd:∀ d∈F.kids,permF d=true)(hn:Tn F)(w:Tw f F (dclA F S F.kids.length).1 F')(h0:(dclA F S F.kids.length).2.ee=0) :
  ∀ i,i≤F.kids.length→dclA F' (renS f S) i=((dclA F S i).1.map (renT f),renS f (dclA F S i).2)
 | 0,_=>rfl
 | i+1,hi=>by
  have a:=Vve H hd hn w h0 i O
  have hz:(dclA F S (i+1)).2.ee=0:=by
   have e:=Xkd F S (i+1) (F.kids.length-(i+1));rw [show i+1+(F.kids.length-(i+1))=F.kids.length by omega] at e;exact e.z h0
  have e:(dclA F S F.kids.length).1.getD i nd0=(dclR F (Za F i) (dclA F S i).2).1:=by
   have:=Qtc F S i (F.kids.length-(i+1));rwa [show i+1+(F.kids.length-(i+1))=F.kids.length by omega] at this
  have k1:=w.kid i;rw [e] at k1;have b:=Jig (f:=f) (S:=(dclA F S i).2) H (hd (Za F i) (by rw [Yj (show i<F.kids.length by omega)];exact Aha _)) (hn.kid i) hz;rw [dclA,dclA,a];dsimp only;rw [k1,b,Afa];rfl
/-! what the renamed file declares -/
structure Dq (d x:Nd):Prop where
  kind:x.kind=d.kind
  text:x.text=d.text
  q0:d.kind=6→ofF (Za x 0)=ofF (Za d 0)
  p:(Za x 0).kids.map (fun p=>(ofF (Za p 0)).1)=(Za d 0).kids.map (fun p=>(ofF (Za p 0)).1)
  q1:ofF (Za x 1)=ofF (Za d 1)
  k1:(Za x 1).kind=(Za d 1).kind
  fl:d.kind=2→mapO Zka x.kids=mapO Zka d.kids
theorem Quc(d:Nd):Dq d (plainT d):=by
 refine ⟨Zwa d,Wma d,fun _=>by rw [Jt,Vgb],Uwg d,by rw [Jt,Vgb],by rw [Jt,Zwa],fun _=>?_⟩;rw [Ja,Vde,show (fun x=>Zka (plainT x))=Zka from funext Uvg]
theorem Jjg(n:Nd)(S:CSt):Dq n (renT f (dclR F n S).1):=by
 by_cases h2:n.kind=2;rw [Yse h2];dsimp only;rw [Qx];exact Quc n;by_cases h6:n.kind=6;rw [Yte h6];dsimp only;rw [Qx];exact Quc n;by_cases h4:n.kind=4;case neg=>rw [Yve h2 h6 h4];dsimp only;rw [Qx];exact Quc n
 rw [Yue h4];unfold funR;dsimp only;obtain ⟨w,wt⟩:=Zga (f:=f) n [annT (Za n 0) (parA F (Za n 0) (funS0 S) (Za n 0).kids.length).1 ty0,plainT (Za n 1),((ckT F (Za n 2)).sts (funS2 F n S)).1] ty0;refine ⟨w.kind,wt,fun h=>absurd h h6,?_,?_,?_,fun h=>absurd h h2⟩;rw [w.kid 0];show (renT f (annT (Za n 0) _ ty0)).kids.map _=_;rw [Zfa,Ala];show (parA F (Za n 0) (funS0 S) (Za n 0).kids.length).1.map _=_;refine Bpa (by rw [Aca,Aca,Jda]) fun i h1 h2=>?_;have hi:i<(Za n 0).kids.length:=by rwa [Aca] at h2
 have hi':i<(parA F (Za n 0) (funS0 S) (Za n 0).kids.length).1.length:=by rw [Jda];exact hi
 rw [Ata,Ata];have e:=Qsc F (Za n 0) (funS0 S) i ((Za n 0).kids.length-(i+1));rw [show i+1+((Za n 0).kids.length-(i+1))=(Za n 0).kids.length by omega,Ada,Bxa hi'] at e;have e:(parA F (Za n 0) (funS0 S) (Za n 0).kids.length).1[i] = .mk (Za (Za n 0) i).kind (Za (Za n 0) i).text (declN (parA F (Za n 0) (funS0 S) i).2) (Za (Za n 0) i).pos ((Za (Za n 0) i).kids.map plainT) ty0 1 0:=e;show (ofF (Za (renT f (parA F (Za n 0) (funS0 S) (Za n 0).kids.length).1[i]) 0)).1=_;rw [e,Xua];have e2:∀ (x:Nd) (a:Int) (s:List UInt8) (b c:Int),Za (.mk a s b c (x.kids.map plainT) ty0 1 0) 0=plainT (Za x 0):=fun x a s b c=>Vfb plainT _ 0 nd0 nd0 Yme;rw [e2,Qx,Vgb,Yj hi];rw [w.kid 1];show ofF (renT f (plainT (Za n 1)))=_;rw [Qx,Vgb];rw [w.kid 1];show (renT f (plainT (Za n 1))).kind=_;rw [Qx,Zwa]
theorem Vwe{kd:Int}{s:List UInt8}:∀ (l l':List Nd) (k:Nat),l'.length=l.length→(∀ i (h:i<l.length) (h':i<l'.length),Dq l[i] l'[i])→(findK kd s l' k).2=(findK kd s l k).2∧(((findK kd s l k).1=nd0∧(findK kd s l' k).1=nd0)∨(Dq (findK kd s l k).1 (findK kd s l' k).1∧(findK kd s l k).1.kind=kd))
 | [],[],k,_,_=>⟨rfl,.inl ⟨rfl,rfl⟩⟩
 | [],_::_,_,h,_=>by cases h
 | _::_,[],_,h,_=>by cases h
 | d::l,d'::l',k,hl,h=>by
  have h0:Dq d d':=h 0 Os Os;have ih:=fun k=>Vwe (kd:=kd) (s:=s) l l' k (by simpa using hl) fun i h1 h2=>h (i+1) (by simpa using h1) (by simpa using h2);rw [findK,findK,h0.kind,h0.text];cases hk:decide (d.kind=kd);exact ih k;cases decide (d.text=s);exact ih (k+1);exact ⟨rfl,.inr ⟨h0,Zch hk⟩⟩
theorem Vxe{s:List UInt8}:∀ (l l':List Nd),l'.length=l.length→(∀ i (h:i<l.length) (h':i<l'.length),Dq l[i] l'[i])→(l.find? (isStr s)=none∧l'.find? (isStr s)=none)∨∃ d d',l.find? (isStr s)=some d∧l'.find? (isStr s)=some d'∧Dq d d'
 | [],[],_,_=>.inl ⟨rfl,rfl⟩
 | [],_::_,h,_=>by cases h
 | _::_,[],h,_=>by cases h
 | d::l,d'::l',hl,h=>by
  have h0:Dq d d':=h 0 Os Os;have e:isStr s d'=isStr s d:=by unfold isStr;rw [h0.kind,h0.text]
  rw [Bqa,Bqa,e];cases isStr s d;exact Vxe l l' (by simpa using hl) fun i h1 h2=>h (i+1) (by simpa using h1) (by simpa using h2);exact .inr ⟨d,d',rfl,rfl,h0⟩
theorem Jkg{F F':Nd}(hl:F'.kids.length=F.kids.length)(h:∀ i (h:i<F.kids.length) (h':i<F'.kids.length),Dq F.kids[i] F'.kids[i]):FlX F F':=by
 have fd:=fun (kd:Int) (s:List UInt8)=>Vwe (kd:=kd) (s:=s) F.kids F'.kids 0 hl h;have n:∀ kd s,(findD F' kd s).2=(findD F kd s).2:=fun kd s=>(fd kd s).1;have two:∀ kd s,((findD F kd s).1=nd0∧(findD F' kd s).1=nd0)∨(Dq (findD F kd s).1 (findD F' kd s).1∧(findD F kd s).1.kind=kd):=fun kd s=>(fd kd s).2;refine ⟨⟨fun s=>by rw [n],fun s=>by rw [n],fun s=>?_,fun s=>by rw [n],fun s=>?_,fun s=>?_,fun s=>?_,fun s=>?_⟩,n 6,n 4⟩;rcases two 6 s with ⟨q1,q2⟩|⟨q,k⟩;rw [q1,q2];rw [q.q0 k];rcases two 4 s with ⟨q1,q2⟩|⟨q,k⟩;rw [q1,q2];exact q.p;rcases two 4 s with ⟨q1,q2⟩|⟨q,k⟩;rw [q1,q2];exact q.q1;rcases two 4 s with ⟨q1,q2⟩|⟨q,k⟩;rw [q1,q2];exact q.k1;unfold Ug;rcases Vxe (s:=s) F.kids F'.kids hl h with ⟨q1,q2⟩|⟨d,d',q1,q2,q3⟩;rw [q1,q2];have h2:d.kind=2:=by have:=List.find?_some q1;rw [isStr] at this;simp at this;exact this.1
 rw [q1,q2];have e:=q3.fl h2;simp only [e]
theorem Ywe{f:List UInt8}{F:Nd}(hv:validB F=true)(h0:(refS F).ee=0)(hn:Tn F):refCheck (renT f (refA F))=(renT f (refA F),0,0):=by
 have ac:=Qug hv h0;have hdup:=dup_dst.2 ac.dst;have eS:refS F=mainS F (dclA F rs0 F.kids.length).2:=by unfold refS;rw [Wrd hdup]
 have eA:refA F=annT F (dclA F rs0 F.kids.length).1 ty0:=by unfold refA;rw [Wrd hdup]
 rw [eS] at h0;have z:=(Xqe F _).z h0
 have hvA:validB (refA F)=true:=by
  have e:=Vke hv;unfold Al at e;rw [← Qmd,e,Qmd,hv]
 have hv':validB (renT f (refA F))=true:=Uwf hvA;obtain ⟨w,wt⟩:=Zga (f:=f) F (dclA F rs0 F.kids.length).1 ty0;have wq:=w.ann wt (dclA F rs0 F.kids.length).1 ty0;rw [← eA] at w wt wq;obtain ⟨F',e'⟩:∃ F',F'=renT f (refA F):=⟨_,rfl⟩;rw [← e'] at w wt wq hv' ⊢;have hl:F'.kids.length=F.kids.length:=by rw [w.len,Yfb]
 have hD:∀ i (h:i<F.kids.length) (h':i<F'.kids.length),Dq F.kids[i] F'.kids[i]:=fun i h h'=>by
  have k:=w.kid i;have e:=Qtc F rs0 i (F.kids.length-(i+1));rw [show i+1+(F.kids.length-(i+1))=F.kids.length by omega] at e;rw [e,Yj h'] at k;rw [k,Yj h];exact Jjg _ _
 have H:FlX F F':=Jkg hl hD;have a:=Vve (f:=f) (S:=rs0) H (fun d hd=>(Zqd hv d hd).2.2) hn w z _ (Aba _);have a:dclA F' rs0 F.kids.length=((dclA F rs0 F.kids.length).1.map (renT f),renS f (dclA F rs0 F.kids.length).2):=a
 have tx:F'.kids.map Nd.text=F.kids.map Nd.text:=Bpa (by rw [Aca,Aca,hl]) fun i h1 h2=>by
  rw [Ata,Ata];exact (hD i (by rwa [Aca] at h2) (by rwa [Aca] at h1)).text
 have nd':namA F' rs0 F'.kids.length=rs0:=Wrd (dup_dst.2 (by unfold Dst;rw [tx];exact ac.dst))
 have zS:(refS F').ee=0:=by
  unfold refS;rw [nd',hl,a];rw [Vpe H.r (S:=(dclA F rs0 F.kids.length).2) (S':=renS f (dclA F rs0 F.kids.length).2) rfl (by rw [H.n4])];exact h0
 have eR:refA F'=F':=by
  unfold refA;rw [nd',hl,a];dsimp only;rw [wq]
 unfold refCheck;rw [hv',Jyg zS,eR];rfl
end
section
variable {P:Da} {Z:List Ba→Act→Aa→Prop} {ops:List Oper} {cl:List Nat} {lv:List Bool} {W0:Aa} {n:Nat} {K:Act→Aa→Prop} {k:Nat} {rest:List Oper} {σ:List Ent} {w:Aa} {d:Nat} {ty:TypeId} {pos:String} {after:Array Edge}
theorem Jlg{e base b:Nat}{D:Nat→Prop}(ho:w.ownsRow base e 9 (.slice (some ⟨b,0,none⟩) 0 0) 0 [])(hD:D b):OwnK e D base w [] (.slice (some ⟨b,0,none⟩) 0 0):=⟨[],ho,Wkb,fun k hk=>by injection hk with hk;exact hk▸hD⟩
theorem Yxe{t e base q' b cp:Nat}{x y:Operand}{zv:Ea}{p:Option Addr}{D D':Nat→Prop}{ks ls:List Nd}(hb:(Aja (clOf cl k) 2&&Aaa d n)=true)(ht:tyElem P t=some (e,9,104))(hzv:zeroOf P e=some zv)
 (hzs:zv.cells.size=9) (hx:Ev n σ True x (.slice (some ⟨b,0,none⟩) ks.length cp)) (hO:OwnK e D base w ks (.slice (some ⟨b,0,none⟩) ks.length cp)) (hcp:ks.length≤cp) (hy:Ev n σ True y (.slice p ls.length q')) (hk:Kd w D' ls (.slice p ls.length q')) (hD':∀ j,D' j→D j∧j≠b)
 (hlen:ks.length+ls.length≤10000000) (hbase:base≤w.heap.size) (hD:D w.heap.size)
 (h:∀ a' c' w',OwnK e D base w' (ks++ls) (.slice a' (ks++ls).length c')→w.grownBy w' (some b)→base≤b→SR P Z ops cl lv W0 n K (k+1) rest ((d,True,.slice a' (ks++ls).length c') :: σ) w') :
 SR P Z ops cl lv W0 n K k (⟨some d,.call { callee:=.builtin .append,args:=#[x,y],argTypes:=#[t,t] },ty,pos,after,none⟩::rest) σ w:=by
 have hge:base≤b:=hO.ge b rfl;by_cases hl:ls=[];subst hl;have h':=h (some ⟨b,0,none⟩) cp w (by rw [Bwa];exact hO) ⟨rfl,rfl,rfl,Aba _,fun _ _ _=>rfl⟩ hge;rw [Bwa] at h';exact Zne hb ht hx hcp hy h';obtain ⟨p',c,e1,hc,hks⟩:=hk;injection e1 with e1 _ e2;subst e1 e2;obtain ⟨b',o,rfl,hDb',xs,hR,hX⟩:=hks (List.length_pos_iff.2 hl);have hX':KRow w (fun j=>D j∧some j≠(Value.slice (some ⟨b,0,none⟩) ks.length cp).ownBlock) ls xs:=hX.mono fun j hj _=>⟨(hD' j hj).1,fun he=>(hD' j hj).2 (by injection he)⟩;exact Vvc hb ht hzv hzs hx hO hy rfl hR hX' hlen hbase hD fun a' c' w' ho' hg=>h a' c' w' ho' hg hge
theorem Wbc{t e base q' b:Nat}{x y:Operand}{zv:Ea}{p:Option Addr}{D D':Nat→Prop}{ls:List Nd}(hb:(Aja (clOf cl k) 2&&Aaa d n)=true)(ht:tyElem P t=some (e,9,104))(hzv:zeroOf P e=some zv)
  (hzs:zv.cells.size=9) (hx:Ev n σ True x (.slice (some ⟨b,0,none⟩) 0 0)) (ho:w.ownsRow base e 9 (.slice (some ⟨b,0,none⟩) 0 0) 0 []) (hDb:D b) (hy:Ev n σ True y (.slice p ls.length q')) (hk:Kd w D' ls (.slice p ls.length q')) (hD':∀ j,D' j→D j∧j≠b)
  (hlen:ls.length≤10000000) (hbase:base≤w.heap.size) (hD:D w.heap.size)
  (h:∀ a' c' w',OwnK e D base w' ls (.slice a' ls.length c')→w.grownBy w' (some b)→base≤b→SR P Z ops cl lv W0 n K (k+1) rest ((d,True,.slice a' ls.length c') :: σ) w') :
  SR P Z ops cl lv W0 n K k (⟨some d,.call { callee:=.builtin .append,args:=#[x,y],argTypes:=#[t,t] },ty,pos,after,none⟩::rest) σ w :=
 Yxe (ks:=[]) hb ht hzv hzs hx (Jlg ho hDb) (Aba _) hy hk hD' (by simpa using hlen) hbase hD h
end
theorem Jad{w w':Aa}{D D':Nat→Prop}{t:Nd}{v:Ea}(hD:∀ b,D b→b<w.heap.size→D' b)(hf:∀ b,D b→b<w.heap.size→w'.heap[b]? = w.heap[b]?)(ht:Kd w' D' t.kids v):∀ {ks:List Nd} {xs:List Ea} (_:KRow w D ks xs) {i:Nat} (_:i<ks.length),KRow w' D' (ks.set i t) (xs.take (i*9)++ndCells t v++xs.drop (i*9+9))
 | s::ks,xs,h,0,_=>by
  obtain ⟨u,r,rfl,h1,h2⟩:=h;have e:(ndCells s u).length=9:=Jn _ _;show KRow w' D' (t::ks) _;rw [Nat.zero_mul,List.take_zero,Bya,Bra,List.drop_append,Cga O,e,Bba,List.drop_zero,Bya];exact Qe ht (Qf hD hf _ _ h2)
 | s::ks,xs,h,i+1,hi=>by
  obtain ⟨u,r,rfl,h1,h2⟩:=h;have e:(ndCells s u).length=9:=Jn _ _;have k:=Jad hD hf ht h2 (i:=i) (by simpa using hi);show KRow w' D' (s::ks.set i t) _;have h1':Kd w' D' s.kids u:=by rw [Yqc] at h1;exact Wk h1 hD hf
  rw [List.take_append,Cha O,e,show (i+1)*9-9=i*9 by omega,List.drop_append,Cga O,e,show (i+1)*9+9-9=i*9+9 by omega,Bya,Bza,Bza,← Bza (r.take _)];exact Qe h1' k
theorem OwnK.seti{e:TypeId}{D:Nat→Prop}{base:Nat}{w:Aa}{ks:List Nd}{s:Ea}(h:OwnK e D base w ks s){i:Nat}(hi:i<ks.length):∃ g c l,s = .slice (some ⟨g,0,none⟩) ks.length c∧Blk w g e l∧i*9+9≤l.length∧D g∧base≤g∧
 (∃ v,(l.drop (i*9)).take 9=ndCells ks[i] v∧Kd w (fun k=>D k∧k≠g) ks[i].kids v)∧
 ∀ {w':Aa} {t:Nd} {v:Ea} {D':Nat→Prop},w.grownBy w' (some g)→Blk w' g e (l.take (i*9)++ndCells t v++l.drop (i*9+(ndCells t v).length))→(∀ b,D b→D' b)→Kd w' (fun k=>D' k∧k≠g) t.kids v→OwnK e D' base w' (ks.set i t) (.slice (some ⟨g,0,none⟩) (ks.set i t).length c):=by
 obtain ⟨xs,ho,hX,hD⟩:=h;obtain ⟨g,c,l,rfl,hge,hB,hmc,hlen,htk,hre⟩:=Vqb ho O;have hg:=hD g rfl;have hfit:i*9+9≤l.length:=by rw [hlen];have:=Nat.mul_le_mul_right 9 hmc;omega
 have hX1:KRow w (fun k=>D k∧k≠g) ks xs:=hX.mono fun k hk _=>⟨hk.1,fun he=>hk.2 (by rw [he];rfl)⟩;obtain ⟨u,hu,hku⟩:=Vrc hX1 hi;refine ⟨g,c,l,rfl,hB,hfit,hg,hge,⟨u,?_,hku⟩,fun {w' t v D'} hw hB' hDD hK=>?_⟩;rw [← hu,← htk,Bsa,List.take_take];congr 1;omega;have e9:(ndCells t v).length=9:=Jn _ _;rw [e9] at hB'
 have e0:(l.take (i*9)++ndCells t v++l.drop (i*9+9)).length=c*9:=by
  rw [Aoa,Aoa,Axa,List.length_drop,e9];omega
 have ho':=hre w' _ hB' e0
 have et:(l.take (i*9)++ndCells t v++l.drop (i*9+9)).take (ks.length*9)=xs.take (i*9)++ndCells t v++xs.drop (i*9+9):=by
  rw [← htk,List.take_append,Aoa,Axa,e9,Cha (by rw [Aoa,Axa,e9];omega),List.take_take,Bsa,show min (i*9) l.length=i*9 by omega,show min (i*9) (ks.length*9)=i*9 by omega]
 rw [et] at ho';refine ⟨_,by rw [List.length_set];exact ho',?_,fun b hb=>by injection hb with hb;exact hb▸hDD g hg⟩;exact Jad (D:=fun k=>D k∧k≠g) (fun b hb hlt=>⟨hDD b hb.1,fun he=>hb.2 (by injection he)⟩) (fun b hb hlt=>hw.block b hlt fun he=>hb.2 (by injection he)) (hK.mono fun k hk _=>⟨hk.1,fun he=>hk.2 (by injection he)⟩) hX1 hi
end Go.Rk
