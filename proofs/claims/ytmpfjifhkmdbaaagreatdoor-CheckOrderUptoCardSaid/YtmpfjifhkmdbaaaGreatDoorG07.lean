/- Merged texts. Conditions: each text's own. -/
import Derived.Test.YtmpfjifhkmdbaaaGreatDoorG06
import Derived.Test.YtmpfjifhkmdbaaaGreatDoorG03
import Derived.Test.YtmpfjifhkmdbaaaGreatDoorG05
import Derived.Test.YtmpfjifhkmdbaaaGreatDoorG02
set_option linter.unusedSimpArgs false
set_option linter.unusedVariables false
set_option maxHeartbeats 16000000
set_option maxRecDepth 100000
open Bool renaming and_eq_true→Afa,and_eq_true_iff→Aia,or_eq_false_iff→Bwa
open Go renaming World→Aa,PanicEntry→Ba,Program→Da,Value→Ea
open Go.Region renaming wanted→Fa
open Int renaming tmod_lt_of_pos→Bxa
open List renaming all_eq_true→Aca,length_map→Aea,getElem_mem→Aja,mem_cons_self→Aka,mem_cons→Ala,getD_eq_getElem?_getD→Ama,getElem?_eq_getElem→Ana,mem_append_right→Aoa,length_cons→Ara,length_take→Ata,length_set→Aua,mem_cons_of_mem→Awa,mem_append_left→Axa,length_erase_of_mem→Aya,mem_of_find?_eq_some→Aza,map_cons→Baa,map_append→Bba,not_mem_nil→Bca,any_eq_false→Bda,getElem_map→Bea,length_append→Bfa,mem_singleton→Bia,find?_some→Bja,find?_eq_none→Bka,nil_append→Bma,append_assoc→Bna,getElem?_eq_none→Bpa,filter_append→Bqa,getLast?_eq_getElem?→Bra,mem_take_iff_getElem→Bsa,drop_of_length_le→Bta,take_of_length_le→Bua,forall_mem_cons→Bva
open Nat renaming blt→Aaa,le_refl→Aba,beq→Ada,le_trans→Aga,zero_add→Apa,le_succ→Aqa,le_add_right→Asa,le_of_ble_eq_true→Ava,ble_eq→Bga,not_lt→Bha,zero_le→Bla,ble_eq_true_of_le→Boa
open Option renaming map_eq_some_iff→Aha
namespace Go.Proofs
end Go.Proofs
namespace Go.Rk
open Go.Proofs
open Go Go.RowKit
def wantA(ops:List Oper)(σ:Sg):Option (Nat×Bool)→Option Bool
 | none=>some true
 | some (g,want)=>match (ops.toArray[g]?).bind (·.dst) with
  | some t=>match lk σ t with
   | some (.v (.c (.b x)))=>some (decide (x=want))
   | some .u=>some false
   | _=>none
  | none=>none
def fin(n:Nat)(d:Option Nat)(v:AV)(σ:Sg)(s s':Am):Option (Sg×Am):=bif okD n d v&&(usV (fun j=>Aaa j s'.nx) v&&Nat.ble s.nx s'.nx) then some (setS d v σ,s') else none
def empty(n:Nat)(d:Option Nat)(σ:Sg)(s:Am):Option (Sg×Am):=match d with
 | some t=>bif Aaa t n then some (ins t .u σ,s) else none
 | none=>some (σ,s)
def stepA(P:Da)(cf:Nat→List AV→Am→Option (AV×Am))(n:Nat)(ops:List Oper)(σ:Sg)(s:Am)(id:Nat)(o:Oper):Option (Sg×Am):=match wantA ops σ o.guard with
 | some false=>empty n o.dst σ s
 | some true=>match pA P σ o.op with
  | some v=>fin n o.dst v σ s s
  | none=>match lA P σ s.m o.op with
   | some (v,_)=>fin n o.dst (.v v) σ s s
   | none=>match eA P cf σ s id o.op with
    | some (v,s')=>fin n o.dst v σ s s'
    | none=>none
 | none=>none
def runT(P:Da)(cf:Nat→List AV→Am→Option (AV×Am))(n:Nat)(ops:List Oper):List Oper→Sg→Am→Option (Sg×Am)
 | [],σ,s=>some (σ,s)
 | o::r,σ,s=>match stepA P cf n ops σ ⟨s.nx+1,s.m⟩ s.nx o with
  | some (σ',s')=>runT P cf n ops r σ' s'
  | none=>none
section
variable {P:Da} {cf:Nat→List AV→Am→Option (AV×Am)} {w0 w:Aa} {ρ:Nat→Rv} {s s':Am} {σ σ':Sg} {id n:Nat} {ops:List Oper} {o:Oper} {a:Act}
theorem Wkb{b:Bool}(h:wantA ops σ o.guard=some b)(ha:Kn n (ent ρ σ) a):Fa o (yielded ops.toArray a.tmps)=b:=by
 obtain ⟨d,op,ty,pos,after,g⟩:=o
 cases g with
 | none=>cases h;rfl
 | some g =>
  obtain ⟨g,want⟩:=g;unfold wantA at h;dsimp only at h;split at h;rename_i t h1;split at h;rename_i x h2;injection h with h;subst h;have hw:=Qka (op:=op) (ty:=ty) (pos:=pos) (after:=after) (want:=want) (d:=d) (b:=x) (c0:=True) h1 (by rw [Qea,h2];rfl) ha;by_cases hx:x=want;rw [hw.2 ⟨trivial,hx⟩,Yag hx];rw [Zzg hx]
  cases hq:Fa _ _ with
  | false=>rfl
  | true=>exact absurd (hw.1 hq).2 hx
  rename_i h2;injection h with h;subst h;have hw:=Qka (op:=op) (ty:=ty) (pos:=pos) (after:=after) (want:=want) (d:=d) (b:=false) (c0:=False) h1 (by rw [Qea,h2];rfl) ha
  cases hq:Fa _ _ with
  | false=>rfl
  | true=>exact (hw.1 hq).1.elim
  cases h;cases h
theorem Yad{d:Option Nat}{v:AV}(hd:okD n d v=true)(ha:Kn n (ent ρ σ) a):Kn n (ent ρ (setS d v σ)) (a.put d (vA ρ v)):=by
 cases d with
 | none=>exact ha
 | some t=>exact Zxd (by cases v <;> first|exact hd|cases hd) ha
theorem Zsb{d:Option Nat}{v:AV}(h:fin n d v σ s s'=some (σ',s')):okD n d v=true∧usV (fun j=>Aaa j s'.nx) v=true∧s.nx≤s'.nx∧σ'=setS d v σ:=by
 unfold fin at h
 cases hq:okD n d v&&(usV (fun j=>Aaa j s'.nx) v&&Nat.ble s.nx s'.nx) with
 | false=>rw [hq] at h;cases h
 | true =>
  rw [hq,Yhg] at h;injection h with h;injection h with h1 h2;simp only [Afa] at hq;exact ⟨hq.1,hq.2.1,Ava hq.2.2,h1.symm⟩
theorem Voc{d:Option Nat}{v:AV}{s1:Am}(h:fin n d v σ s s1=some (σ',s')):s1=s':=by
 unfold fin at h
 cases hq:okD n d v&&(usV (fun j=>Aaa j s1.nx) v&&Nat.ble s.nx s1.nx) with
 | false=>rw [hq] at h;cases h
 | true=>rw [hq,Yhg] at h;injection h with h;injection h with _ h
theorem Xba{j a b:Nat}(h:Aaa j a=true)(hab:a≤b):Aaa j b=true:=Boa (Aga (Ava h) hab)
theorem Ws.mono{a b:Nat}(h:Ws σ a)(hab:a≤b):Ws σ b:=fun t x hl=>Wrd (fun j hj=>Xba hj hab) (h t x hl)
theorem Ueb{d:Option Nat}{v:AV}{m:Nat}(h:Ws σ m)(hv:usV (fun j=>Aaa j m) v=true):Ws (setS d v σ) m:=by
 cases d with
 | none=>exact h
 | some t =>
  intro u x hl;have hl:lk (ins t v σ) u=some x:=hl;rw [Zrb] at hl
  cases hb:Ada t u with
  | true=>rw [hb] at hl;injection hl with hl;subst hl;exact hv
  | false=>rw [hb] at hl;exact h u x hl
theorem Inv.bump(hi:Inv w0 ρ s w){m:Nat}(hm:s.nx≤m):Inv w0 ρ ⟨m,s.m⟩ w:=⟨hi.g,hi.ok,fun k B hk=>⟨Xba (hi.wf k B hk).1 hm,Aca.2 fun a ha=>Jza (fun j hj=>Xba hj hm) (Aca.1 (hi.wf k B hk).2 a ha)⟩,hi.ne⟩
theorem Ybd{j m:Nat}(h:Aaa j m=true):(!Ada j m)=true:=by
 have:=Ava h;rw [Vba O];rfl
theorem Jzf(hi:Inv w0 ρ s w)(hw:Ws σ s.nx):Fre s.nx σ s.m:=⟨fun t x hl=>Wrd (fun j hj=>Ybd hj) (hw t x hl),fun k B hk=>⟨by have:=Ybd (hi.wf k B hk).1;simpa using this,Aca.2 fun a ha=>Jza (fun j hj=>Ybd hj) (Aca.1 (hi.wf k B hk).2 a ha)⟩⟩
theorem Wtd{d:Option Nat}(h:empty n d σ s=some (σ',s'))(ha:Kn n (ent ρ σ) a)(hw:Ws σ s.nx):s'=s∧Ws σ' s.nx∧Kn n (ent ρ σ') (a.put d undef):=by
 cases d with
 | none=>injection h with h;injection h with h1 h2;subst h1 h2;exact ⟨rfl,hw,ha⟩
 | some t =>
  unfold empty at h;dsimp only at h
  cases hq:Aaa t n with
  | false=>rw [hq] at h;cases h
  | true =>
   rw [hq,Yhg] at h;injection h with h;injection h with h1 h2;subst h1 h2;exact ⟨rfl,Ueb (d:=some t) (v:=.u) hw rfl,Zxd (v:=.u) hq ha⟩
theorem Wud(h:stepA P cf n ops σ s id o=some (σ',s'))(hw:Ws σ s.nx):s.nx≤s'.nx∧Ws σ' s'.nx:=by
 unfold stepA at h
 have key:∀ {v:AV} {s1:Am},fin n o.dst v σ s s1=some (σ',s')→s.nx≤s'.nx∧Ws σ' s'.nx:=fun hf=>by
  obtain rfl:=Voc hf;obtain ⟨h1,h2,h3,rfl⟩:=Zsb hf;exact ⟨h3,Ueb (hw.mono h3) h2⟩
 split at h
 cases hd:o.dst with
 | none=>rw [hd] at h;injection h with h;injection h with h1 h2;subst h1 h2;exact ⟨Aba _,hw⟩
 | some t =>
  rw [hd] at h;unfold empty at h;dsimp only at h
  cases hq:Aaa t n with
  | false=>rw [hq] at h;cases h
  | true=>rw [hq,Yhg] at h;injection h with h;injection h with h1 h2;subst h1 h2;exact ⟨Aba _,Ueb (d:=some t) (v:=.u) hw rfl⟩
 split at h;exact key h;split at h;exact key h;split at h;exact key h;cases h;cases h
theorem Zxf{Z:List Ba→Act→Aa→Prop}(hcf:CfOk P w0 cf)(h:stepA P cf n ops σ s id o=some (σ',s'))(hi:Inv w0 ρ s w)(hw:Ws σ s.nx)(hf:Fre id σ s.m)(hid:Aaa id s.nx=true)(ha:Kn n (ent ρ σ) a) :
 if Fa o (yielded ops.toArray a.tmps)=true then Eff P Z false o a w (Aft P w0 ρ s id n σ' s') else Aft P w0 ρ s id n σ' s' (a.put o.dst undef) w:=by
 unfold stepA at h;split at h;rename_i h0;rw [if_neg (by rw [Wkb h0 ha];simp)];obtain ⟨rfl,_,h2⟩:=Wtd h ha hw;exact ⟨ρ,fun _ _=>rfl,hi,h2⟩;rename_i h0;rw [if_pos (Wkb h0 ha)];obtain ⟨d,op,ty,pos,after,g⟩:=o;split at h;rename_i v hv;obtain rfl:=Voc h;obtain ⟨h1,h2,h3,rfl⟩:=Zsb h;exact .inl ⟨_,w,Uuf hv _ _ _ _ a ha trivial w (G.refl w),(fun h=>by cases h),ρ,fun _ _=>rfl,hi,Yad h1 ha⟩;split at h;rename_i v k hv;obtain rfl:=Voc h;obtain ⟨h1,h2,h3,rfl⟩:=Zsb h;obtain ⟨B,hB,hr⟩:=Uvf (ρ:=ρ) (n:=n) (c:=True) hv;exact .inl ⟨_,w,hr (hi.ok k B hB) _ _ _ _ a ha trivial w (G.refl w),(fun h=>by cases h),ρ,fun _ _=>rfl,hi,Yad h1 ha⟩;split at h;rename_i v s1 hv;obtain rfl:=Voc h;obtain ⟨h1,h2,h3,rfl⟩:=Zsb h;exact Uwf hcf hv h1 hi hw hf hid ha;cases h;cases h
theorem Yce:∀ (l:List Oper) (σ:Sg) (s:Am),runT P cf n ops l σ s=some (σ',s')→Ws σ s.nx→s.nx≤s'.nx∧Ws σ' s'.nx
 | [],σ,s,h,hw=>by injection h with h;injection h with h1 h2;subst h1 h2;exact ⟨Aba _,hw⟩
 | o::r,σ,s,h,hw=>by
  unfold runT at h;split at h;rename_i σ1 s1 h1;obtain ⟨h2,h3⟩:=Wud h1 (hw.mono (Aqa _));obtain ⟨h4,h5⟩:=Yce r σ1 s1 h h3;exact ⟨Aga (Aqa _) (Aga h2 h4),h5⟩;cases h
theorem Yde{Z:List Ba→Act→Aa→Prop}{W0:Aa}(hcf:CfOk P w0 cf):∀ (l:List Oper) (k:Nat) (σ:Sg) (s:Am) (ρ:Nat→Rv) (a:Act) (w:Aa) (K:Act→Aa→Prop),(∀ j,l[j]? = ops[k+j]?)→runT P cf n ops l σ s=some (σ',s')→Inv w0 ρ s w→Ws σ s.nx→Kn n (ent ρ σ) a→
  (∀ ρ' a' w',(∀ j,Aaa j s.nx=true→ρ' j = ρ j)→Inv w0 ρ' s' w'→Kn n (ent ρ' σ') a'→K a' w')→RS P Z ops.toArray (fun _=>2) (fun _=>true) W0 K (List.range' k l.length) a w
 | [],k,σ,s,ρ,a,w,K,hl,h,hi,hw,ha,hK=>by
  injection h with h;injection h with h1 h2;subst h1 h2;exact hK ρ a w (fun _ _=>rfl) hi ha
 | o::r,k,σ,s,ρ,a,w,K,hl,h,hi,hw,ha,hK=>by
  unfold runT at h;split at h;rename_i σ1 s1 h1;have hw1:=hw.mono (Aqa s.nx);obtain ⟨h2,h3⟩:=Wud h1 hw1;have hid:Aaa s.nx (s.nx+1)=true:=Boa (Aba _);have hst:=Zxf (Z:=Z) hcf h1 (hi.bump (Aqa s.nx)) hw1 (Jzf hi hw) hid ha
  have hnext:∀ a' w',Aft P w0 ρ ⟨s.nx+1,s.m⟩ s.nx n σ1 s1 a' w'→RS P Z ops.toArray (fun _=>2) (fun _=>true) W0 K (List.range' (k+1) r.length) a' w':=by
   rintro a' w' ⟨ρ1,hA,hI,hk⟩;refine Yde hcf r (k+1) σ1 s1 ρ1 a' w' K (fun j=>by have:=hl (j+1);simpa [Nat.add_assoc,Nat.add_comm 1 j] using this) h hI h3 hk fun ρ' a2 w2 hA2 hI2 hk2=>hK ρ' a2 w2 (fun j hj=>?_) hI2 hk2;have hj1:Aaa j (s.nx+1)=true:=Xba hj (Aqa _);rw [hA2 j (Xba hj1 h2)];exact hA j (by rw [hj1,Ybd hj];rfl)
  rw [Ara,List.range'_succ];refine ⟨o,by have:=hl 0;simpa using this.symm,?_⟩;rw [if_neg (by intro h;rcases h with h|h <;> cases h)]
  split;rename_i hwt;rw [if_pos hwt] at hst;exact hst.turn rfl (fun _ _ h=>h) fun v w' _ hn=>hnext _ _ hn;rename_i hwt;rw [if_neg hwt] at hst;exact hnext _ _ hst;cases h
end
def clT(o:Oper):Nat:=match o.op with
 | .load ..=>0
 | .move .. | .assign .. | .pick .. | .nilCheck .. | .binOp .. | .unOp .. | .slice .. | .fieldAddr .. | .field .. | .indexAddr .. | .index .. | .extract .. | .build ..=>3
 | .store ..=>2
 | .call c=>match c.callee with
  | .builtin .len=>3
  | .builtin .append=>2
  | _=>1
 | _=>1
def masksA:List Oper→List Nat→List Nat
 | [],ms=>ms
 | o::r,ms=>masksA r (ms++[maskOf ms o.after.toList])
def freB(id:Nat)(σ:Sg)(m:List (Nat×AB)):Bool:=σ.all (fun x=>usV (fun j=>!Ada j id) x.2)&&m.all fun x=>!Ada x.1 id&&x.2.l.all (us0 fun j=>!Ada j id)
abbrev DR:=Option (Sg×Am×List Nat×List (List (Nat×AB)×List (Nat×AB)))
def runAll(f:Nat→DR):List Nat→DR
 | []=>none
 | [j]=>f j
 | j::r=>match f j,runAll f r with
  | some (σ1,s1,k1,n1),some (σ2,s2,k2,n2)=>if σ1 = σ2∧s1=s2 then some (σ1,s1,k1++k2,n1++n2) else none
  | _,_=>none
def Yee(k:List Nat)(n:List (List (Nat×AB)×List (Nat×AB))):DR→DR
 | some (σ,s,k',n')=>some (σ,s,k++k',n++n')
 | none=>none
def rdA(P:Da)(n B:Nat)(ops:List Oper)(σ:Sg)(s:Am)(o:Oper)(three:Bool):Option (Sg×List Nat):=match wantA ops σ o.guard with
 | some false=>(empty n o.dst σ s).map fun x=>(x.1,[])
 | some true=>bif three then (match pA P σ o.op with
   | some v=>(fin n o.dst v σ s s).map fun x=>(x.1,[])
   | none=>none)
  else match lA P σ s.m o.op with
   | some (v,k)=>bif Aaa k B then (fin n o.dst (.v v) σ s s).map fun x=>(x.1,[k]) else none
   | none=>none
 | none=>none
def efA(P:Da)(cf:Nat→List AV→Am→Option (AV×Am))(n:Nat)(ops:List Oper)(σ:Sg)(s:Am)(id:Nat)(o:Oper):Option (Sg×Am):=bif freB id σ s.m&&Aaa id s.nx then (match wantA ops σ o.guard with
 | some false=>empty n o.dst σ s
 | some true=>(match eA P cf σ s id o.op with
   | some (v,s')=>fin n o.dst v σ s s'
   | none=>none)
 | none=>none) else none
def runD(P:Da)(cf:Nat→List AV→Am→Option (AV×Am))(n B:Nat)(ops:List Oper)(cl ms:List Nat):Nat→List Nat→Sg→Am→DR
 | 0,L,σ,s=>bif L.isEmpty then some (σ,s,[],[]) else none
 | m+1,L,σ,s=>match L.find? (fun r=>availB ms L r&&isRdB cl r) with
  | some r=>match ops.toArray[r]? with
   | some o=>match rdA P n B ops σ s o (Ada (clOf cl r) 3) with
    | some (σ1,k1)=>Yee k1 [] (runD P cf n B ops cl ms m (L.erase r) σ1 s)
    | none=>none
   | none=>none
  | none=>runAll (fun j=>match ops.toArray[j]? with
   | some o=>match efA P cf n ops σ s (B+j) o with
    | some (σ1,s1)=>Yee [] (bif Ada (clOf cl j) 1 then [(s.m,s1.m)] else []) (runD P cf n B ops cl ms m (L.erase j) σ1 s1)
    | none=>none
   | none=>none) (candB cl ms L)
def runG(P:Da)(cf:Nat→List AV→Am→Option (AV×Am))(n:Nat)(ops:List Oper)(σ:Sg)(s:Am):Option (Sg×Am) :=
 bif okT ops (ops.map clT) (masksA ops []) then (match runD P cf n s.nx ops (ops.map clT) (masksA ops []) ops.length (List.range ops.length) σ ⟨s.nx+ops.length,s.m⟩ with
  | some (σ',s',kp,sn)=>bif kp.all (fun k=>Aaa k s.nx)&&sn.all (fun x=>kp.all fun k=>(lk x.1 k).isSome&&decide (lk x.1 k=lk x.2 k)) then some (σ',s') else none
  | none=>none) else none
section
variable {P:Da} {cf:Nat→List AV→Am→Option (AV×Am)} {w0 w:Aa} {ρ:Nat→Rv} {s s':Am} {σ σ':Sg} {id n:Nat} {ops:List Oper} {o:Oper} {a:Act}
theorem Qtd{α:Type}{t:Nat}{v:α}:∀ {l:List (Nat×α)},lk l t=some v→(t,v)∈l
 | [],h=>by cases h
 | (k,x)::r,h=>by
  unfold lk at h
  cases hb:Ada k t with
  | true=>rw [hb] at h;injection h with h;subst h;rw [Nat.eq_of_beq_eq_true hb];exact Aka
  | false=>rw [hb] at h;exact Awa _ (Qtd h)
theorem Zag{m:List (Nat×AB)}(h:freB id σ m=true):Fre id σ m:=by
 obtain ⟨h1,h2⟩:=Aia.1 h;refine ⟨fun t x hl=>Aca.1 h1 _ (Qtd hl),fun k B hk=>?_⟩;have:=Aca.1 h2 _ (Qtd hk);obtain ⟨h3,h4⟩:=Aia.1 this;exact ⟨by simpa using h3,h4⟩
theorem Ufb{f:Nat→DR}:∀ {cs:List Nat} {σ':Sg} {s':Am} {kp:List Nat} {sn:List (List (Nat×AB)×List (Nat×AB))},runAll f cs=some (σ',s',kp,sn)→∀ j∈cs,∃ k1 n1,f j=some (σ',s',k1,n1)∧(∀ x∈k1,x∈kp)∧∀ x∈n1,x∈sn
 | [],_,_,_,_,h=>by cases h
 | [j],σ',s',kp,sn,h=>fun i hi=>by
  rw [Bia.1 hi];exact ⟨kp,sn,h,fun _ h=>h,fun _ h=>h⟩
 | j::i::r,σ',s',kp,sn,h=>by
  unfold runAll at h;split at h;rename_i σ1 s1 k1 n1 σ2 s2 k2 n2 h1 h2;split at h;rename_i he;obtain ⟨rfl,rfl⟩:=he;injection h with h;injection h with h3 h;injection h with h4 h;injection h with h5 h6;subst h3 h4 h5 h6;intro x hx;rcases Ala.1 hx with rfl|hx;exact ⟨k1,n1,h1,fun _ h=>Axa _ h,fun _ h=>Axa _ h⟩;obtain ⟨k3,n3,q1,q2,q3⟩:=Ufb h2 x hx;exact ⟨k3,n3,q1,fun _ h=>Aoa _ (q2 _ h),fun _ h=>Aoa _ (q3 _ h)⟩;cases h;cases h
theorem Qyb{k:List Nat}{n0:List (List (Nat×AB)×List (Nat×AB))}{r:DR}{kp:List Nat}{sn:List (List (Nat×AB)×List (Nat×AB))}(h:Yee k n0 r=some (σ',s',kp,sn)):∃ k' n',r=some (σ',s',k',n')∧kp=k++k'∧sn=n0++n':=by
 unfold Yee at h;split at h;injection h with h;injection h with h3 h;injection h with h4 h;injection h with h5 h6;subst h3 h4;exact ⟨_,_,rfl,h5.symm,h6.symm⟩;cases h
theorem Vtf{Z:List Ba→Act→Aa→Prop}{row:RelX}{gr:Bool}{K next:Act→Aa→Prop}(h:Eff P Z false o a w K)(hk:∀ a' w',K a' w'→(gr=true→GX row w w')∧next a' w'):EffQ P Z row gr o a w next:=by
 rcases h with ⟨v,w',hr,_,hn⟩|⟨w',hr,_,hn⟩|⟨f,args,hr,hc⟩|⟨l,f,tmps,asg,body,hr,hc⟩;exact .inl ⟨v,w',hr,hk _ _ hn⟩;exact .inr (.inl ⟨w',hr,hk _ _ hn⟩);refine .inr (.inr (.inl ⟨f,args,hr,Calls.mono hc fun e w' h=>?_⟩));rcases h with ⟨v,e1,_,h1⟩|⟨ch,e1,h1⟩;exact .inl ⟨v,e1,hk _ _ h1⟩;exact .inr ⟨ch,e1,h1⟩;refine .inr (.inr (.inr ⟨l,f,tmps,asg,body,hr,RoundIn.mono hc fun e w' h=>?_⟩));obtain ⟨v,e1,_,h1⟩:=h;exact ⟨v,e1,hk _ _ h1⟩
@[reducible] def keepR(ρ:Nat→Rv)(KF:List Nat):RelX:=⟨fun w w'=>∀ k∈KF,w'.heap[(ρ k).b]? = w.heap[(ρ k).b]?,fun _ _ _=>rfl,fun h h' k hk=>(h' k hk).trans (h k hk)⟩
theorem Qoc{d:Option Nat}{σ1:Sg}{k1:List Nat}(h:(empty n d σ s).map (fun x=>(x.1,([]:List Nat)))=some (σ1,k1)):empty n d σ s=some (σ1,s)∧k1=[]:=by
 obtain ⟨⟨x1,x2⟩,h1,h2⟩:=Aha.1 h;injection h2 with h2 h3;subst h2 h3;refine ⟨?_,rfl⟩;rw [h1]
 cases d with
 | none=>injection h1 with h1;injection h1 with _ h1;rw [h1]
 | some t =>
  unfold empty at h1;dsimp only at h1
  cases hq:Aaa t n with
  | false=>rw [hq] at h1;cases h1
  | true=>rw [hq,Yhg] at h1;injection h1 with h1;injection h1 with _ h1;rw [h1]
theorem Yxc{d:Option Nat}{v:AV}{σ1:Sg}{k1 k2:List Nat}(h:(fin n d v σ s s).map (fun x=>(x.1,k2))=some (σ1,k1)):fin n d v σ s s=some (σ1,s)∧k1=k2:=by
 obtain ⟨⟨x1,x2⟩,h1,h2⟩:=Aha.1 h;injection h2 with h2 h3;subst h2 h3;obtain rfl:=Voc h1;exact ⟨h1,rfl⟩
theorem Zyf{B:Nat}{three:Bool}{σ1:Sg}{k1:List Nat}(h:rdA P n B ops σ s o three=some (σ1,k1))(hw:Ws σ s.nx):Ws σ1 s.nx:=by
 have key:∀ {v:AV},fin n o.dst v σ s s=some (σ1,s)→Ws σ1 s.nx:=fun hf=>by
  obtain ⟨h1,h2,h3,rfl⟩:=Zsb hf;exact Ueb hw h2
 unfold rdA at h;split at h;obtain ⟨h1,_⟩:=Qoc h
 cases hd:o.dst with
 | none=>rw [hd] at h1;injection h1 with h1;injection h1 with h1 _;subst h1;exact hw
 | some t =>
  rw [hd] at h1;unfold empty at h1;dsimp only at h1
  cases hq:Aaa t n with
  | false=>rw [hq] at h1;cases h1
  | true=>rw [hq,Yhg] at h1;injection h1 with h1;injection h1 with h1 _;subst h1;exact Ueb (d:=some t) (v:=.u) hw rfl
 cases three with
 | true =>
  rw [Yhg] at h;split at h;exact key (Yxc h).1;cases h
 | false =>
  rw [Ygg] at h;split at h;rename_i v k hv
  cases hq:Aaa k B with
  | false=>rw [hq] at h;cases h
  | true=>rw [hq,Yhg] at h;exact key (Yxc h).1
  cases h
 cases h
theorem Zbg{B:Nat}{three:Bool}{σ1:Sg}{k1:List Nat}{ρB:Nat→Rv}{KF:List Nat}(h:rdA P n B ops σ s o three=some (σ1,k1))(hi:Inv w0 ρ s w)(ha:Kn n (ent ρ σ) a)(hB:∀ k,Aaa k B=true→ρ k = ρB k)(hk:∀ x∈k1,x∈KF) :
 ∃ v,(Fa o (yielded ops.toArray a.tmps)=true→∀ w1,three=true∨GX (keepR ρB KF) w w1→(execOp a.eval o).run P w1 = .ok (.value v) w1)∧(Fa o (yielded ops.toArray a.tmps)=false→v=undef)∧Kn n (ent ρ σ1) (a.put o.dst v):=by
 unfold rdA at h;split at h;rename_i h0;have hwt:=Wkb h0 ha;obtain ⟨h1,_⟩:=Qoc h;refine ⟨undef,fun hq=>(by rw [hwt] at hq;cases hq),fun _=>rfl,?_⟩
 cases hd:o.dst with
 | none=>rw [hd] at h1;injection h1 with h1;injection h1 with h1 _;subst h1;exact ha
 | some t =>
  rw [hd] at h1;unfold empty at h1;dsimp only at h1
  cases hq:Aaa t n with
  | false=>rw [hq] at h1;cases h1
  | true=>rw [hq,Yhg] at h1;injection h1 with h1;injection h1 with h1 _;subst h1;exact Zxd (v:=.u) hq ha
 rename_i h0;have hwt:=Wkb h0 ha;obtain ⟨d,op,ty,pos,after,g⟩:=o
 cases three with
 | true =>
  rw [Yhg] at h;split at h;rename_i v hv;obtain ⟨h1,_⟩:=Yxc h;obtain ⟨h2,h3,h4,rfl⟩:=Zsb h1;exact ⟨_,fun _ w1 _=>Uuf hv _ _ _ _ a ha trivial w1 (G.refl w1),fun hq=>(by rw [hwt] at hq;cases hq),Yad h2 ha⟩;cases h
 | false =>
  rw [Ygg] at h;split at h;rename_i v k hv
  cases hq:Aaa k B with
  | false=>rw [hq] at h;cases h
  | true =>
   rw [hq,Yhg] at h;obtain ⟨h1,rfl⟩:=Yxc h;obtain ⟨h2,h3,h4,rfl⟩:=Zsb h1;obtain ⟨A,hA,hr⟩:=Uvf (ρ:=ρ) (n:=n) (c:=True) hv;refine ⟨_,fun _ w1 hg=>?_,fun hq=>(by rw [hwt] at hq;cases hq),Yad h2 ha⟩;rcases hg with hg|hg;cases hg;have hh:=hg k (hk k Aka);rw [← hB k hq] at hh;exact hr ((hi.ok k A hA).heap hh) _ _ _ _ a ha trivial w1 (G.refl w1)
  cases h
 cases h
theorem Ycd(h:efA P cf n ops σ s id o=some (σ',s')):Fre id σ s.m∧Aaa id s.nx=true∧(match wantA ops σ o.guard with
 | some false=>empty n o.dst σ s
 | some true=>(match eA P cf σ s id o.op with
   | some (v,s')=>fin n o.dst v σ s s'
   | none=>none)
 | none=>none)=some (σ',s'):=by
 unfold efA at h
 cases hq:freB id σ s.m&&Aaa id s.nx with
 | false=>rw [hq] at h;cases h
 | true =>
  rw [hq,Yhg] at h
  obtain ⟨hf,hid⟩:=Aia.1 hq
  exact ⟨Zag hf,hid,h⟩
theorem Zzf(h:efA P cf n ops σ s id o=some (σ',s'))(hw:Ws σ s.nx):s.nx≤s'.nx∧Ws σ' s'.nx:=by
 have h:=(Ycd h).2.2;split at h
 cases hd:o.dst with
 | none=>rw [hd] at h;injection h with h;injection h with h1 h2;subst h1 h2;exact ⟨Aba _,hw⟩
 | some t =>
  rw [hd] at h;unfold empty at h;dsimp only at h
  cases hq:Aaa t n with
  | false=>rw [hq] at h;cases h
  | true=>rw [hq,Yhg] at h;injection h with h;injection h with h1 h2;subst h1 h2;exact ⟨Aba _,Ueb (d:=some t) (v:=.u) hw rfl⟩
 split at h;obtain rfl:=Voc h;obtain ⟨h1,h2,h3,rfl⟩:=Zsb h;exact ⟨h3,Ueb (hw.mono h3) h2⟩;cases h;cases h
theorem Zcg{Z:List Ba→Act→Aa→Prop}(hcf:CfOk P w0 cf)(h:efA P cf n ops σ s id o=some (σ',s'))(hi:Inv w0 ρ s w)(hw:Ws σ s.nx)(ha:Kn n (ent ρ σ) a) :
 if Fa o (yielded ops.toArray a.tmps)=true then Eff P Z false o a w (Aft P w0 ρ s id n σ' s') else Aft P w0 ρ s id n σ' s' (a.put o.dst undef) w:=by
 obtain ⟨hf,hid,h⟩:=Ycd h;split at h;rename_i h0;rw [if_neg (by rw [Wkb h0 ha];simp)];obtain ⟨rfl,_,h2⟩:=Wtd h ha hw;exact ⟨ρ,fun _ _=>rfl,hi,h2⟩;rename_i h0;rw [if_pos (Wkb h0 ha)];obtain ⟨d,op,ty,pos,after,g⟩:=o;split at h;rename_i v s1 hv;obtain rfl:=Voc h;obtain ⟨h1,h2,h3,rfl⟩:=Zsb h;exact Uwf hcf hv h1 hi hw hf hid ha;cases h;cases h
theorem Ydd{B:Nat}{cl ms:List Nat}:∀ (m:Nat) (L:List Nat) (σ:Sg) (s:Am) (kp:List Nat) (sn:List (List (Nat×AB)×List (Nat×AB))),L.length=m→runD P cf n B ops cl ms m L σ s=some (σ',s',kp,sn)→Ws σ s.nx→s.nx≤s'.nx∧Ws σ' s'.nx
 | 0,L,σ,s,kp,sn,_,h,hw=>by
  unfold runD at h
  cases hq:L.isEmpty with
  | false=>rw [hq] at h;cases h
  | true=>rw [hq,Yhg] at h;injection h with h;injection h with h3 h;injection h with h4 h;subst h3 h4;exact ⟨Aba _,hw⟩
 | m+1,L,σ,s,kp,sn,hL,h,hw=>by
  unfold runD at h;split at h;rename_i r hr;split at h;rename_i o ho;split at h;rename_i σ1 k1 h1;obtain ⟨k',n',h2,hk',hn'⟩:=Qyb h;exact Ydd m _ σ1 s k' n' (by rw [Aya (Aza hr)];omega) h2 (Zyf h1 hw);cases h;cases h
  obtain ⟨j,hj⟩:∃ j,j∈candB cl ms L:=by
   cases hc:candB cl ms L with
   | nil=>rw [hc] at h;cases h
   | cons j r=>exact ⟨j,Aka⟩
  obtain ⟨k1,n1,h1,_,_⟩:=Ufb h j hj;split at h1;rename_i o ho;split at h1;rename_i σ1 s1 h2;obtain ⟨k',n',h3,hk',hn'⟩:=Qyb h1;obtain ⟨h4,h5⟩:=Zzf h2 hw;obtain ⟨h6,h7⟩:=Ydd m _ σ1 s1 k' n' (by rw [Aya (List.mem_filter.1 hj).1];omega) h3 h5;exact ⟨Aga h4 h6,h7⟩;cases h1;cases h1
theorem Yed{Z:List Ba→Act→Aa→Prop}{B:Nat}{cl ms:List Nat}{ρB:Nat→Rv}{KF:List Nat}{K:Act→Aa→Prop}(hcf:CfOk P w0 cf)(hKF:∀ k∈KF,Aaa k B=true)(hK:∀ ρ' a' w',(∀ k,Aaa k B=true→ρ' k = ρB k)→Inv w0 ρ' s' w'→Kn n (ent ρ' σ') a'→K a' w') :
  ∀ (m:Nat) (L:List Nat) (σ:Sg) (s:Am) (kp:List Nat) (sn:List (List (Nat×AB)×List (Nat×AB))) (ρ:Nat→Rv) (a:Act) (w:Aa),L.length=m→runD P cf n B ops cl ms m L σ s=some (σ',s',kp,sn)→(∀ k∈kp,k∈KF)→(∀ x∈sn,∀ k∈KF,(lk x.1 k).isSome=true∧lk x.1 k=lk x.2 k)→
  Inv w0 ρ s w→Ws σ s.nx→Kn n (ent ρ σ) a→(∀ k,Aaa k B=true→ρ k = ρB k)→B≤s.nx→RT P Z ops.toArray (clOf cl) (wtOf ms) (keepR ρB KF) K m L a w
 | 0,L,σ,s,kp,sn,ρ,a,w,_,h,_,_,hi,hw,ha,hB,_=>by
  unfold runD at h
  cases hq:L.isEmpty with
  | false=>rw [hq] at h;cases h
  | true =>
   rw [hq,Yhg] at h;injection h with h;injection h with h3 h;injection h with h4 h;subst h3 h4;exact ⟨by simpa using hq,hK ρ a w hB hi ha⟩
 | m+1,L,σ,s,kp,sn,ρ,a,w,hL,h,hkp,hsn,hi,hw,ha,hB,hBn=>by
  unfold runD at h;split at h;rename_i r hr;have hrL:=Aza hr;have hrp:=Bja hr;obtain ⟨hav,hrd⟩:=Aia.1 hrp;split at h;rename_i o ho;split at h;rename_i σ1 k1 h1;obtain ⟨k',n',h2,hk',hn'⟩:=Qyb h;obtain ⟨v,q1,q2,q3⟩:=Zbg h1 hi ha hB fun x hx=>hkp x (by rw [hk'];exact Axa _ hx);refine .inl ⟨r,hrL,(Zoa ms L r).1 hav,(Jib cl r).1 hrd,o,ho,v,fun hwt w1 hg=>q1 hwt w1 (hg.imp (fun e=>by rw [e];rfl) id),q2,?_⟩;exact Yed hcf hKF hK m _ σ1 s k' n' ρ _ w (by rw [Aya hrL];omega) h2 (fun k hk=>hkp k (by rw [hk'];exact Aoa _ hk)) (fun x hx=>hsn x (by rw [hn'];exact Aoa _ hx)) hi (Zyf h1 hw) q3 hB hBn;cases h;cases h;rename_i hnone;refine .inr ⟨fun r hr hav hrd=>?_,fun j hj hav=>?_⟩;have:=Bka.1 hnone r hr;rw [(Zoa ms L r).2 hav,(Jib cl r).2 hrd] at this;exact this rfl;obtain ⟨k1,n1,h1,hk1,hn1⟩:=Ufb h j (List.mem_filter.2 ⟨hj,(Zoa ms L j).2 hav⟩);split at h1;rename_i o ho;refine ⟨o,ho,?_⟩;split at h1;rename_i σ1 s1 h2;obtain ⟨k',n',h3,hk',hn'⟩:=Qyb h1;obtain ⟨h4,h5⟩:=Zzf h2 hw;have hst:=Zcg (Z:=Z) hcf h2 hi hw ha
  have agr:∀ ρ1,Agr1 s.nx (B+j) ρ ρ1→∀ k,Aaa k B=true→ρ1 k = ρ k:=fun ρ1 hA k hk=>by
   refine hA k ?_;have:=Ava hk;rw [Xba hk hBn,Vba O];rfl
  have hnext:∀ a' w',Aft P w0 ρ s (B+j) n σ1 s1 a' w'→((clOf cl j == 1)=true→GX (keepR ρB KF) w w')∧RT P Z ops.toArray (clOf cl) (wtOf ms) (keepR ρB KF) K m (L.erase j) a' w':=by
   rintro a' w' ⟨ρ1,hA,hI,hkn⟩;have hA':=agr ρ1 hA;refine ⟨fun hc k hk=>?_,?_⟩;have hc1:Ada (clOf cl j) 1=true:=by rw [show clOf cl j=1 by simpa using hc];rfl
   have:=hsn (s.m,s1.m) (hn1 _ (by rw [hn',hc1];exact Axa _ Aka)) k hk;obtain ⟨hs1,hs2⟩:=this;obtain ⟨A,hA1⟩:=Option.isSome_iff_exists.1 hs1;dsimp only at hA1 hs2;rw [hA1] at hs2;have e1:=hA' k (hKF k hk);have hcells:A.l.map (v0 ρ1)=A.l.map (v0 ρ):=Vnc hA (Zyd (hi.wf k A hA1).2 ((Ycd h2).1.m k A hA1).2);have:=(hi.ok k A hA1).same (hI.ok k A hs2.symm) e1 hcells;rw [hB k (hKF k hk)] at this;exact this;exact Yed hcf hKF hK m _ σ1 s1 k' n' ρ1 a' w' (by rw [Aya hj];omega) h3 (fun k hk=>hkp k (hk1 k (by rw [hk'];exact Aoa _ hk))) (fun x hx=>hsn x (hn1 x (by rw [hn'];exact Aoa _ hx))) hI h5 hkn (fun k hk=>(hA' k hk).trans (hB k hk)) (Aga hBn h4)
  split;rename_i hwt;rw [if_pos hwt] at hst;exact Vtf hst hnext;rename_i hwt;rw [if_neg hwt] at hst;exact (hnext _ _ hst).2;cases h1;cases h1
end
inductive Ex where
  | n|r|x (id:Nat)
def ev(P:Da)(cf:Nat→List AV→Am→Option (AV×Am))(n:Nat):Nat→Code→Sg→Am→Option (Ex×Sg×Am)
 | 0,_,_,_=>none
 | f+1,c,σ,s=>match c with
  | .skip=>some (.n,σ,s)
  | .ret=>some (.r,σ,s)
  | .exit id=>some (.x id,σ,s)
  | .region _ ops draw=>(bif draw then runG P cf n ops.toList σ s else runT P cf n ops.toList ops.toList σ s).map fun x=>(.n,x.1,x.2)
  | .seq a b=>match ev P cf n f a σ s with
   | some (.n,σ',s')=>ev P cf n f b σ' s'
   | r=>r
  | .cond x p q=>match a0 (oA σ x) with
   | some (.b b)=>ev P cf n f (bif b then p else q) σ s
   | _=>none
  | .block id c=>match ev P cf n f c σ s with
   | some (.x i,σ',s')=>some (bif Ada i id then .n else .x i,σ',s')
   | r=>r
  | .loop c=>match ev P cf n f c σ s with
   | some (.n,σ',s')=>ev P cf n f (.loop c) σ' s'
   | r=>r
  | _=>none
def argS:Nat→List AV→Sg
 | _,[]=>[]
 | k,v::vs=>(k,v)::argS (k+1) vs
def resA(P:Da)(σ:Sg)(m:List (Nat×AB)):ResultVar→Option A1
 | .tmp t=>match lk σ t with
  | some (.v a)=>some a
  | _=>none
 | .cell t T=>(lA P σ m (.load T (.tmp t))).map (·.1)
def retI(P:Da)(rs:List ResultVar):Ex×Sg×Am→Option (AV×Am)
 | (.r,σ,s)=>match rs with
  | []=>some (.t [],s)
  | [r]=>(resA P σ s.m r).map fun a=>(.v a,s)
  | rs=>(allO (resA P σ s.m) rs).map fun l=>(.t l,s)
 | (.n,σ,s)=>match rs with
  | []=>some (.t [],s)
  | _=>none
 | _=>none
def callF(P:Da):Nat→Nat→List AV→Am→Option (AV×Am)
 | 0,_,_,_=>none
 | f+1,g,vs,s=>match P.funcs[g]? with
  | some fn=>match fn.body with
   | some c=>bif vs.all (okD 1 (some 0)) then (match ev P (callF P f) (vs.length+(fn.ntmps-vs.length)) 3000 c (argS 0 vs) s with
    | some r=>retI P fn.results.toList r
    | none=>none) else none
   | none=>none
  | none=>none
def Out(N:Act→Aa→Prop)(X:List (Nat×(Act→Aa→Prop)))(T:Act→Aa→Prop)(e:Ex)(a:Act)(w:Aa):Prop:=match e with
 | .n=>N a w
 | .r=>T a w
 | .x id=>∃ k,X.lookup id=some k∧k a w
section
variable {P:Da} {cf:Nat→List AV→Am→Option (AV×Am)} {w0 w:Aa} {ρ:Nat→Rv} {s s':Am} {σ σ':Sg} {id n:Nat} {a:Act}
theorem Inv.drew(hi:Inv w0 ρ s w):Inv w0 ρ s w.drew:=⟨hi.g.trans (G.drew _),fun k B hk=>(hi.ok k B hk).heap rfl,hi.wf,hi.ne⟩
theorem Yfe{ops:List Oper}(h:runG P cf n ops σ s=some (σ',s')):okT ops (ops.map clT) (masksA ops [])=true∧∃ kp sn,runD P cf n s.nx ops (ops.map clT) (masksA ops []) ops.length (List.range ops.length) σ ⟨s.nx+ops.length,s.m⟩=some (σ',s',kp,sn)∧(∀ k∈kp,Aaa k s.nx=true)∧∀ x∈sn,∀ k∈kp,(lk x.1 k).isSome=true∧lk x.1 k=lk x.2 k:=by
 unfold runG at h
 cases hq:okT ops (ops.map clT) (masksA ops []) with
 | false=>rw [hq] at h;cases h
 | true =>
  rw [hq,Yhg] at h;split at h;rename_i σ1 s1 kp sn h1
  cases hc:kp.all (fun k=>Aaa k s.nx)&&sn.all (fun x=>kp.all fun k=>(lk x.1 k).isSome&&decide (lk x.1 k=lk x.2 k)) with
  | false=>rw [hc] at h;cases h
  | true =>
   rw [hc,Yhg] at h;injection h with h;injection h with h2 h3;subst h2 h3;obtain ⟨h4,h5⟩:=Aia.1 hc;refine ⟨rfl,kp,sn,h1,fun k hk=>Aca.1 h4 k hk,fun x hx k hk=>?_⟩;have:=Aca.1 (Aca.1 h5 x hx) k hk;simpa using this
  cases h
theorem Zwb:∀ (f:Nat) (c:Code) (σ:Sg) (s:Am) (e:Ex) (σ':Sg) (s':Am),ev P cf n f c σ s=some (e,σ',s')→Ws σ s.nx→s.nx≤s'.nx∧Ws σ' s'.nx
 | 0,_,_,_,_,_,_,h,_=>by cases h
 | f+1,c,σ,s,e,σ',s',h,hw=>by
  unfold ev at h;split at h;injection h with h;injection h with _ h;injection h with h1 h2;subst h1 h2;exact ⟨Aba _,hw⟩;injection h with h;injection h with _ h;injection h with h1 h2;subst h1 h2;exact ⟨Aba _,hw⟩;injection h with h;injection h with _ h;injection h with h1 h2;subst h1 h2;exact ⟨Aba _,hw⟩;rename_i draw;obtain ⟨⟨x1,x2⟩,h1,h2⟩:=Aha.1 h;injection h2 with _ h2;injection h2 with h3 h4;subst h3 h4
  cases draw with
  | true =>
   rw [Yhg] at h1;obtain ⟨_,kp,sn,h5,_⟩:=Yfe h1;obtain ⟨h6,h7⟩:=Ydd _ _ _ _ kp sn Os h5 (hw.mono (Asa _ _));exact ⟨Aga (Asa _ _) h6,h7⟩
  | false=>exact Yce _ _ _ h1 hw
  split at h;rename_i σ1 s1 h1;obtain ⟨h2,h3⟩:=Zwb f _ _ _ _ _ _ h1 hw;obtain ⟨h4,h5⟩:=Zwb f _ _ _ _ _ _ h h3;exact ⟨Aga h2 h4,h5⟩;exact Zwb f _ _ _ _ _ _ h hw;split at h;exact Zwb f _ _ _ _ _ _ h hw;cases h;split at h;rename_i i σ1 s1 h1;injection h with h;injection h with _ h;injection h with h2 h3;subst h2 h3;exact Zwb f _ _ _ _ _ _ h1 hw;exact Zwb f _ _ _ _ _ _ h hw;split at h;rename_i σ1 s1 h1;obtain ⟨h2,h3⟩:=Zwb f _ _ _ _ _ _ h1 hw;obtain ⟨h4,h5⟩:=Zwb f _ _ _ _ _ _ h h3;exact ⟨Aga h2 h4,h5⟩;exact Zwb f _ _ _ _ _ _ h hw;cases h
theorem ev_ok(hcf:CfOk P w0 cf)(hm:P.follows .mixedOrders=true)(F:Nat):∀ (f:Nat),f≤F→∀ (c:Code) (σ:Sg) (s:Am) (e:Ex) (σ':Sg) (s':Am) (ρ:Nat→Rv) (w:Aa) (N:Act→Aa→Prop) (X:List (Nat×(Act→Aa→Prop))) (T:Act→Aa→Prop),ev P cf n f c σ s=some (e,σ',s')→Inv w0 ρ s w→Ws σ s.nx→
 (∀ ρ' a' w',(∀ k,Aaa k s.nx=true→ρ' k = ρ k)→Inv w0 ρ' s' w'→Kn n (ent ρ' σ') a'→Out N X T e a' w')→SC P n c N X T (ent ρ σ) w:=by
 induction F with
 | zero =>
  intro f hf c σ s e σ' s' ρ w N X T h;obtain rfl:f=0:=by omega
  cases h
 | succ F ih =>
  intro f hf c σ s e σ' s' ρ w N X T h hi hw hK
  cases f with
  | zero=>cases h
  | succ f =>
  have ihA:=ih;have ih:=ih f O;have chain:∀ {σ1:Sg} {s1:Am} {e1:Ex} {c1:Code} {ρ1 ρ2:Nat→Rv},ev P cf n f c1 σ s=some (e1,σ1,s1)→(∀ k,Aaa k s.nx=true→ρ1 k = ρ k)→(∀ k,Aaa k s1.nx=true→ρ2 k = ρ1 k)→∀ k,Aaa k s.nx=true→ρ2 k = ρ k:=fun h1 q1 q2 k hk=>(q2 k (Xba hk (Zwb f _ _ _ _ _ _ h1 hw).1)).trans (q1 k hk);have h0:=h;unfold ev at h;split at h;injection h with h;injection h with h2 h;injection h with h3 h4;subst h2 h3 h4;exact Yw fun a ha=>hK ρ a w (fun _ _=>rfl) hi ha;injection h with h;injection h with h2 h;injection h with h3 h4;subst h2 h3 h4;exact Wb fun a ha=>hK ρ a w (fun _ _=>rfl) hi ha;injection h with h;injection h with h2 h;injection h with h3 h4;subst h2 h3 h4;refine .mk fun a ha=>wp_exit ?_;obtain ⟨k,h5,h6⟩:=hK ρ a w (fun _ _=>rfl) hi ha;show match X.lookup _ with|some k=>k a w|none=>False
  rw [h5];exact h6;rename_i id ops draw;obtain ⟨⟨x1,x2⟩,h1,h2⟩:=Aha.1 h;injection h2 with h5 h2;injection h2 with h3 h4;subst h3 h4 h5
  cases draw with
  | true =>
   rw [Yhg] at h1;obtain ⟨q0,kp,sn,q1,q2,q3⟩:=Yfe h1;have e:ops=ops.toList.toArray:=by simp
   rw [e];refine Yu (keepR ρ kp) _ _ hm q0 _ J (.mk fun a ha=>?_);exact Yed hcf q2 (fun ρ' a' w' hA hI hk=>hK ρ' a' w' hA hI hk) _ _ σ _ kp sn ρ a w.drew Os q1 (fun _ h=>h) q3 (hi.drew.bump (Asa _ _)) (hw.mono (Asa _ _)) ha (fun _ _=>rfl) (Asa _ _)
  | false =>
   rw [Ygg] at h1;refine .mk fun a ha=>?_;refine Ymf (cl:=fun _=>2) (W0:=w) ?_;have:=Yde (ops:=ops.toList) (Z:=NoP) (W0:=w) hcf ops.toList 0 σ s ρ a w (fun a w=>(Qof N X T fun _ _=>False) .normal a w) Os h1 hi hw ha fun ρ' a' w' hA hI hk=>hK ρ' a' w' hA hI hk;rw [List.range_eq_range'];simpa using this
  rename_i x y;split at h;rename_i σ1 s1 h1;refine Vae fun K hKy=>ih _ σ s .n σ1 s1 ρ w K X T h1 hi hw fun ρ1 a1 w1 hA1 hI1 hk1=>?_;exact hKy (ent ρ1 σ1) w1 (ih _ σ1 s1 e σ' s' ρ1 w1 N X T h hI1 (Zwb f _ _ _ _ _ _ h1 hw).2 fun ρ2 a2 w2 hA2 hI2 hk2=>hK ρ2 a2 w2 (chain h1 hA1 hA2) hI2 hk2) a1 hk1;rename_i hne;refine Vae fun K hKy=>ih _ σ s e σ' s' ρ w K X T h hi hw fun ρ1 a1 w1 hA1 hI1 hk1=>?_;have:=hK ρ1 a1 w1 hA1 hI1 hk1
  cases e with
  | n=>exact absurd h (hne _ _)
  | _=>exact this
  split at h;rename_i b hb
  cases b with
  | true=>exact Yqf (oC hb) (ih _ σ s e σ' s' ρ w N X T h hi hw hK)
  | false=>exact Vbe (oC hb) (ih _ σ s e σ' s' ρ w N X T h hi hw hK)
  cases h;rename_i id c;split at h;rename_i i σ1 s1 h1;injection h with h;injection h with h2 h;injection h with h3 h4;subst h2 h3 h4;refine Yz (ih _ σ s _ σ1 s1 ρ w N _ T h1 hi hw fun ρ1 a1 w1 hA1 hI1 hk1=>?_);have:=hK ρ1 a1 w1 hA1 hI1 hk1;by_cases hq:i=id;subst hq;rw [Nat.beq_refl,Yhg] at this;exact ⟨N,by simp [List.lookup],this⟩;rw [Vba hq,Ygg] at this;obtain ⟨k,q1,q2⟩:=this;refine ⟨k,?_,q2⟩;rw [List.lookup_cons];have:(i == id)=false:=by simpa using hq
  rw [this];exact q1;rename_i hne;refine Yz (ih _ σ s e σ' s' ρ w N _ T h hi hw fun ρ1 a1 w1 hA1 hI1 hk1=>?_);have:=hK ρ1 a1 w1 hA1 hI1 hk1
  cases e with
  | x i=>exact absurd h (hne _ _ _)
  | _=>exact this
  rename_i c;refine Xyb (α:=(Nat×Sg×Am×(Nat→Rv))) (fun x w=>Inv w0 x.2.2.2 x.2.2.1 w∧Ws x.2.1 x.2.2.1.nx∧ev P cf n x.1 (.loop c) x.2.1 x.2.2.1=some (e,σ',s')∧(∀ k,Aaa k s.nx=true→x.2.2.2 k = ρ k)∧s.nx≤x.2.2.1.nx∧x.1≤F+1) (fun x=>ent x.2.2.2 x.2.1) (fun x=>x.1) (f+1,σ,s,ρ) ⟨hi,hw,h0,fun _ _=>rfl,Aba _,hf⟩ (fun _ _ _ h=>h) ?_;rintro ⟨g,σ1,s1,ρ1⟩ w1 ⟨hi1,hw1,he1,hA1,hn1,hg⟩;dsimp only at hi1 hw1 he1 hA1 hn1 hg ⊢
  cases g with
  | zero=>cases he1
  | succ g =>
   unfold ev at he1;dsimp only at he1;split at he1;rename_i σ2 s2 h2;obtain ⟨h3,h4⟩:=Zwb g _ _ _ _ _ _ h2 hw1;refine ihA g O _ σ1 s1 .n σ2 s2 ρ1 w1 _ X T h2 hi1 hw1 fun ρ2 a2 w2 hA2 hI2 hk2=>?_;exact ⟨(g,σ2,s2,ρ2),hk2,⟨hI2,h4,he1,fun k hk=>(hA2 k (Xba hk hn1)).trans (hA1 k hk),Aga hn1 h3,O⟩,Nat.lt_succ_self _⟩;rename_i hne;refine ihA g O _ σ1 s1 e σ' s' ρ1 w1 _ X T he1 hi1 hw1 fun ρ2 a2 w2 hA2 hI2 hk2=>?_;have:=hK ρ2 a2 w2 (fun k hk=>(hA2 k (Xba hk hn1)).trans (hA1 k hk)) hI2 hk2
   cases e with
   | n=>exact absurd he1 (hne _ _)
   | _=>exact this
  cases h
theorem Yaf{r:ResultVar}{v:A1}(h:resA P σ s.m r=some v)(hi:Inv w0 ρ s w){rs:List ResultVar}{vs:List Ea}(k:EvR P n (ent ρ σ) w rs vs):EvR P n (ent ρ σ) w (r::rs) (v1 ρ v::vs):=by
 cases r with
 | tmp t =>
  have h:(match lk σ t with|some (.v a)=>some a|_=>none)=some v:=h;split at h;rename_i a hl;injection h with h;subst h;exact Vab (by rw [Qea,hl];rfl) k;cases h
 | cell t T =>
  have h:(lA P σ s.m (.load T (.tmp t))).map (·.1)=some v:=h;obtain ⟨⟨u,k0⟩,h1,h2⟩:=Aha.1 h;dsimp only at h2;subst h2;unfold lA at h1;dsimp only at h1;split at h1;rename_i j o hp;have hx:=Usf (ρ:=ρ) (Utf hp);split at h1;rename_i B hB;have hr:=(hi.ok j B hB).row
  cases ht:Wt P T with
  | true =>
   rw [ht,Yhg] at h1;obtain ⟨a,h3,h4⟩:=Aha.1 h1;injection h4 with h4 h5;subst h4 h5;refine Ylb hx ht ?_ k;have:=hr _ (v0 ρ a) (by rw [List.getElem?_map,h3];rfl);rwa [Apa] at this
  | false =>
   rw [ht,Ygg] at h1;split at h1;rename_i z h3;split at h1;rename_i hz;injection h1 with h1;injection h1 with h4 h5;subst h4 h5;exact Zra hx h3 (by rw [Aea,Ata,List.length_drop];omega) (Zye hr _ _) k;cases h1;cases h1
  cases h1;cases h1
theorem Yge(hi:Inv w0 ρ s w):∀ {rs:List ResultVar} {l:List A1},allO (resA P σ s.m) rs=some l→EvR P n (ent ρ σ) w rs (l.map (v1 ρ))∧l.length=rs.length
 | [],l,h=>by injection h with h;subst h;exact ⟨Vo,rfl⟩
 | r::rs,l,h=>by
  unfold allO at h;split at h;rename_i y l' h1 h2;injection h with h;subst h;obtain ⟨q1,q2⟩:=Yge hi h2;exact ⟨Yaf h1 hi q1,by rw [Ara,Ara,q2]⟩;cases h
theorem Wvd(ρ:Nat→Rv):∀ (k:Nat) (vs:List AV),vs.all (okD 1 (some 0))=true→ent ρ (argS k vs)=argsK k (vs.map (vA ρ))
 | _,[],_=>rfl
 | k,v::vs,h=>by
  rw [List.all_cons,Afa] at h;have ih:=Wvd ρ (k+1) vs h.2;unfold argS;rw [Baa];unfold argsK;rw [← ih];unfold ent;rw [Baa]
  cases v with
  | u=>cases h.1
  | _=>rfl
theorem Yhe{p:Nat→Bool}:∀ (vs:List AV) (k t:Nat) (x:AV),(∀ v∈vs,usV p v=true)→lk (argS k vs) t=some x→usV p x=true
 | [],_,_,_,_,h=>by cases h
 | v::vs,k,t,x,hv,h=>by
  unfold argS lk at h
  cases hb:Ada k t with
  | true=>rw [hb] at h;injection h with h;subst h;exact hv _ Aka
  | false=>rw [hb] at h;exact Yhe vs (k+1) t x (fun y hy=>hv y (Awa _ hy)) h
theorem Wwd(hm:P.follows .mixedOrders=true):∀ (f:Nat),CfOk P w0 (callF P f)
 | 0=>fun g vs s v s' h=>by cases h
 | f+1=>fun g vs s v s' h ρ w hi hvs=>by
  unfold callF at h;split at h;rename_i fn hfn;split at h;rename_i c hc
  cases hq:vs.all (okD 1 (some 0)) with
  | false=>rw [hq] at h;cases h
  | true =>
   rw [hq,Yhg] at h;split at h;rename_i r hr;obtain ⟨e,σ1,s1⟩:=r
   have hs1:s1=s':=by
    unfold retI at h;split at h;rename_i σ2 s2 heq;injection heq with _ heq;injection heq with h3 h4;subst h3 h4;split at h;injection h with h;injection h with _ h;obtain ⟨_,_,h4⟩:=Aha.1 h;injection h4 with _ h4;obtain ⟨_,_,h4⟩:=Aha.1 h;injection h4 with _ h4;rename_i σ2 s2 heq;injection heq with _ heq;injection heq with h3 h4;subst h3 h4;split at h;injection h with h;injection h with _ h;cases h;cases h
   subst hs1;refine Vw hfn hc J (argsK 0 (vs.map (vA ρ))) (fun _ _ _ h=>h) ?_;rw [Aea,← Wvd ρ 0 vs hq];refine ev_ok (Wwd hm f) hm 3000 3000 (Aba _) c (argS 0 vs) s e σ1 s1 ρ w _ _ _ hr hi (fun t x hl=>Yhe vs 0 t x hvs hl) fun ρ' a' w' hA hI hk=>?_;have post:∀ u,u=vA ρ' v→∃ ρ',(∀ k,Aaa k s.nx=true→ρ' k = ρ k)∧Inv w0 ρ' s1 w'∧u=vA ρ' v:=fun u hu=>⟨ρ',hA,hI,hu⟩;have hres:fn.results=fn.results.toList.toArray:=by simp
   unfold retI at h;split at h;rename_i σ2 s2 heq;injection heq with h2 heq;injection heq with h3 h4;subst h2 h3 h4;split at h;rename_i hz;injection h with h;injection h with h _;subst h;dsimp only [Out];refine Vce (by rw [hres,hz]) ?_ a' hk;exact post _ rfl;rename_i r hz;obtain ⟨u,h3,h4⟩:=Aha.1 h;injection h4 with h4 _;subst h4;dsimp only [Out];refine Yda (by rw [hres,hz]) (Yaf h3 hI Vo) ?_ a' hk;exact post _ rfl;rename_i rs hn1 hn2;obtain ⟨l,h3,h4⟩:=Aha.1 h;injection h4 with h4 _;subst h4;obtain ⟨q1,q2⟩:=Yge (n:=vs.length+(fn.ntmps-vs.length)) hI h3;dsimp only [Out]
   refine Wia hres (by
    match fn.results.toList,hn1,hn2 with
    | [],hn1,_=>exact absurd rfl hn1
    | [r],_,hn2=>exact absurd rfl (hn2 r)
    | _::_::_,_,_=>rfl) q1 (by rw [Aea,q2]) ?_ a' hk
   exact post _ rfl;rename_i σ2 s2 heq;injection heq with h2 heq;injection heq with h3 h4;subst h2 h3 h4;split at h;rename_i hz;injection h with h;injection h with h _;subst h;dsimp only [Out];refine Zsa (by rw [hres,hz]) ?_ a' hk;exact post _ rfl;cases h;cases h;cases h
  cases h;cases h
end
def Wxd(g:List A0→Option Nd):Nat→List A0→Option (List Nd)
 | 0,l=>bif l.isEmpty then some [] else none
 | q+1,l=>match g (l.take 9),Wxd g q (l.drop 9) with
  | some t,some r=>some (t::r)
  | _,_=>none
def treeA(m:List (Nat×AB)):Nat→List A0→Option Nd
 | f+1,[.i .i64 k,.s x,.i .i64 n,.i .i64 p,ks,.i .i64 tk,.s tn,.i .i64 r,.i .i64 u]=>(match ks with
  | .e=>some []
  | .r j q=>match lk m j with
   | some ⟨e,some (z,q'),c⟩=>if e=26∧z=9∧q'=q then Wxd (treeA m f) q c else none
   | _=>none
  | _=>none).map fun l=>.mk k x n p l ⟨tk,tn⟩ r u
 | _,_=>none
section
variable {w0 w:Aa} {ρ:Nat→Rv} {s:Am}
def Dn(w0 w:Aa)(k:Nat):Prop:=w0.heap.size≤k∧NdR w k
theorem Wyd{g:List A0→Option Nd}{D:Nat→Prop}(hg:∀ l t,g l=some t→∃ v,l.map (v0 ρ)=ndCells t v∧Kd w D t.kids v):∀ (q:Nat) (l:List A0) (ts:List Nd),Wxd g q l=some ts→KRow w D ts (l.map (v0 ρ))∧ts.length=q
 | 0,l,ts,h=>by
  unfold Wxd at h
  cases l with
  | nil=>injection h with h;subst h;exact ⟨Qib,rfl⟩
  | cons=>cases h
 | q+1,l,ts,h=>by
  unfold Wxd at h;split at h;rename_i t r h1 h2;injection h with h;subst h;obtain ⟨v,h3,h4⟩:=hg _ _ h1;obtain ⟨h5,h6⟩:=Wyd hg q _ r h2;refine ⟨?_,by rw [Ara,h6]⟩;have:=Ut h4 h5;rw [← h3,← Bba,List.take_append_drop] at this;exact this;cases h
theorem Wzd(hi:Inv w0 ρ s w):∀ (f:Nat) (l:List A0) (t:Nd),treeA s.m f l=some t→∃ v,l.map (v0 ρ)=ndCells t v∧Kd w (Dn w0 w) t.kids v
 | 0,l,t,h=>by cases h
 | f+1,l,t,h=>by
  unfold treeA at h;split at h;rename_i hf;injection hf with hf;subst hf;obtain ⟨ks,h1,rfl⟩:=Aha.1 h;refine ⟨_,rfl,?_⟩;show Kd w _ ks _;split at h1;injection h1 with h1;subst h1;exact Xxc _ _;split at h1;rename_i e z q' c hl;split at h1;rename_i hc;obtain ⟨rfl,rfl,rfl⟩:=hc;obtain ⟨h2,h3⟩:=Wyd (Wzd hi f) _ _ _ h1;have hA:=hi.ok _ _ hl;have hO:=hA.2.1;refine ⟨some ⟨(ρ _).b,0,none⟩,(ρ _).c,by rw [h3];rfl,?_,fun hpos=>⟨_,0,rfl,⟨hA.1,?_⟩,_,hA.row,h2⟩⟩;rcases hO.2 with ⟨q1,_⟩|⟨g,cap,cur,q1,_,_,q2,_⟩;cases q1;injection q1 with _ _ q1;rw [h3,q1];exact q2;rcases hO.2 with ⟨q1,_⟩|⟨g,cap,cur,q1,_,q3,_⟩;cases q1;injection q1 with q1 _ _;injection q1 with q1;injection q1 with q1 _ _;rw [q1];exact ⟨_,_,q3⟩;cases h1;cases h1;cases h1;cases h
end
noncomputable def runP(s:List UInt8):Option Nd:=match callF PP 100 16 [.v (.c (.s s))] ⟨0,[]⟩ with
 | some (.t [.g l,.c (.i .i64 a),.c (.i .i64 b)],s')=>if a=0∧b=0 then treeA s'.m 60 l else none
 | _=>none
theorem Vuf{s:List UInt8}{T:Nd}(h:runP s=some T)(w:Aa):Ret PP 16 #[Str s] w fun r w'=>(∃ u,r = .tuple #[u,.int .i64 0,.int .i64 0]∧RetN T w.heap.size u w')∧G w w':=by
 unfold runP at h;split at h;rename_i l a b s' hc;split at h;rename_i hz;obtain ⟨rfl,rfl⟩:=hz;have hi:Inv w (fun _=>⟨0,0,none⟩) ⟨0,[]⟩ w:=⟨G.refl w,fun k B hk=>(by cases hk),fun k B hk=>(by cases hk),fun k k' B B' hk=>(by cases hk)⟩;refine (Wwd mix 100 _ _ _ _ _ hc _ w hi fun x hx=>by rw [Bia.1 hx];rfl).mono fun r w' hr=>?_;obtain ⟨ρ',_,hI,rfl⟩:=hr;obtain ⟨v,h1,h2⟩:=Wzd hI _ _ _ h;refine ⟨⟨ndV T v,?_,Zfd h2⟩,hI.g⟩;show Value.tuple #[Value.agg (l.map (v0 ρ')).toArray,_,_]=_;rw [h1];rfl;cases h;cases h
theorem Xub{s:List UInt8}{T:Nd}(hp:runP s=some T)(hc:count T≤1000000)(w:Aa)(hL:LaidW w.heap.size w):Ret PP 26 #[Str s] w fun r w'=>(∃ u,r = .tuple #[u,.int .i64 (refCheck T).2.1,.int .i64 (refCheck T).2.2]∧RetN (refCheck T).1 w.heap.size u w')∧G w w':=by
 have g:=G.refl w;refine Vw (m:=23) Tryz.func26 J J [(0,True,_)] (Za J (Zr _)) ?_;refine Zl (Zp (Yr J Zn J ?_));intro b2 w2 N2;have l2:=N2.ge g;have nat2:=N2.at_;have g:=g.trans N2.g;have E:=(Qh _).new N2;refine Xe J (Xe J (Ze (kq (Zl (Zp (Zw J (Xc J (Zx Qxc Vb (aqc J aq0) J) (Vuf hp _) ?_)))))));rintro v10 w10 ⟨⟨u10,rfl,p10,c10,rfl,hk10⟩,g10⟩;refine ⟨fun _=>g10,?_⟩;have g:=g.trans g10;replace E:=E.grow g10;have hk10:Kd w10 (fun k=>k<w10.heap.size) T.kids (.slice p10 T.kids.length c10):=(Kd.mono hk10 fun k _ h=>h);refine Zw J (Qf J J (Qf J J (Qf J J (Yr J Zn J ?_))));intro b5 w5 N5;have l5:=N5.ge g;have nat5:=N5.at_;have g:=g.trans N5.g;have hk10:=hk10.grow (N5.g);replace E:=E.new N5;refine Jp Yf J J J E.g0 ?_;intro wS1 hgS1 _ BS;replace E:=E.s0 hgS1 BS;have g:=Yh g hgS1 O;have hk10:=hk10.keep hgS1 (fun k hk _ he=>by injection he with he;have hk:k<w10.heap.size:=hk;omega);refine Xe J (Xe J (Ze (kq (Zl (Zl (Zp (Zw J (Ysf J J (Ze (kq (Um J (fun h1=>?_) (fun h1=>?_))))))))))))
 ·exact absurd h1 Od
  done
 (try simp only [bsimp] at h1);refine Yw (kq (Zl (Zp (Wy Zf J J E.g0.row (Xc J (Zx Zfa Vb (aqc J aq0) J) (Jya T _ _ _ [b2,b5] hk10 hc ((hL.grow g).top) (E.ltm Ob) g.size) ?_)))));rintro v19 w19 ⟨⟨p19,c19,rfl,q19,k19⟩,g19⟩;refine ⟨fun _=>g19,?_⟩;have g:=g.trans g19;replace E:=E.grow g19;refine Qf J J (Qf J J (Qf J J (Jp Yf J J J E.g1 ?_)));intro wS2 hgS2 _ BS;replace E:=E.s1 hgS2 BS;have g:=Yh g hgS2 O;have k19:=k19.keep hgS2 Oi;refine Xe J (Xe J (Ze (kq (Wb (Wia (rs:=[.cell 2 26,.tmp 3,.tmp 4]) (vs:=[_,_,_]) J J (Zra J Zf J (E.g1.row) (Vab J (Vab J (Vo)))) J ?_)))));exact ⟨⟨_,rfl,Xf rfl (k19.kdN q19)⟩,g⟩
def smp6A:List UInt8:=List.append [118,97,114,32,103,32,105,110,116] (10::[102,117,110,99,32,109,97,105,110,40,41,32,123,32,120,32,58,61,32,103,59,32,102,117,110,99,40,41,32,123,32,120,32,61,32,120,32,43,32,49,32,125,40,41,32,125])
def smp6B:List UInt8:=[102,117,110,99,32,109,97,105,110,40,41,32,123,32,120,32,61,32,49,32,125]
def smp6C:List UInt8:=[102,117,110,99,32,109,97,105,110,40,41,32,123,32,120,32,58,61,32,110,105,108,32,125]
def smp6D:List UInt8:=[102,117,110,99,32,109,97,105,110,40,41,32,123,32,120,32,58,61,32,49,59,32,120,32,58,61,32,50,32,125]
def smp6E:List UInt8:=[102,117,110,99,32,102,40,41,32,123,32,125]
def useX(t:Nd):Bool:=(((decide (t.kind=27)&&decide (t.text=[120]))&&decide (t.ref=1))&&decide (t.num=0))&&decide (t.ty.kind=1)
def upS(l:List Nd):Int:=(l.map fun t=>bif useX t then t.up else 0).sum
def good(a e:Int)(T:Nd):Bool:=decide (count T≤1000000)&&(decide ((refCheck T).2.1=a)&&decide ((refCheck T).2.2=e))
def Uxf(T:Nd):Bool:=(decide (count T≤1000000)&&decide ((refCheck T).2.2=0))&&((decide (count (refCheck T).1≤1000)&&decide ((listN (refCheck T).1).length≤1000))&&(((listN (refCheck T).1).all fun t=>decide (0≤t.up)&&decide (t.up≤100))&&decide (upS (listN (refCheck T).1)=2)))
theorem Vpc{q:Nd→Bool}{x:Option Nd}(h:x.any q=true):∃ T,x=some T∧q T=true:=by
 cases x with
 | none=>cases h
 | some T=>exact ⟨T,rfl,h⟩
theorem Yyc{a e:Int}{T:Nd}(h:good a e T=true):count T≤1000000∧(refCheck T).2.1=a∧(refCheck T).2.2=e:=by
 unfold good at h;simpa using h
theorem kA:(runP smp6A).any Uxf=true:=by decide +kernel
theorem kB:(runP smp6B).any (good 14 5)=true:=by decide +kernel
theorem kC:(runP smp6C).any (good 19 7)=true:=by decide +kernel
theorem kD:(runP smp6D).any (good 22 6)=true:=by decide +kernel
theorem kE:(runP smp6E).any (good 0 5)=true:=by decide +kernel
theorem Vad{l:List Nd}{i:Nat}(h:i<l.length):upS (l.take (i+1))=upS (l.take i)+(bif useX l[i] then l[i].up else 0):=by
 unfold upS;rw [List.take_succ_eq_append_getElem h,Bba,List.sum_append];simp
theorem Ybf:∀ {l:List Nd},(∀ t∈l,0≤t.up∧t.up≤100)→0≤upS l∧upS l≤100*(l.length:Int)
 | [],_=>⟨Int.le_refl _,Int.le_refl _⟩
 | t::l,h=>by
  have h1:=Ybf (l:=l) fun u hu=>h u (Awa _ hu);have h2:=h t Aka;have e:upS (t::l)=(bif useX t then t.up else 0)+upS l:=by unfold upS;simp
  rw [e,Ara];cases useX t;rw [Ygg];omega;rw [Yhg];omega
theorem Woe(w:Aa)(hL:LaidW w.heap.size w):Ret PP 10 #[] w fun r w'=>r = .bool true∧G w w':=by
 obtain ⟨TA,pA,gA⟩:=Vpc kA;obtain ⟨TB,pB,gB⟩:=Vpc kB;obtain ⟨TC,pC,gC⟩:=Vpc kC;obtain ⟨TD,pD,gD⟩:=Vpc kD;obtain ⟨TE,pE,gE⟩:=Vpc kE;obtain ⟨qB,rB⟩:=Yyc gB;obtain ⟨qC,rC⟩:=Yyc gC;obtain ⟨qD,rD⟩:=Yyc gD;obtain ⟨qE,rE⟩:=Yyc gE;unfold Uxf at gA;simp only [Afa,Ycg] at gA;obtain ⟨⟨qA,rA⟩,⟨hcA,hlA⟩,hup,huA⟩:=gA;obtain ⟨A,hA⟩:∃ A,A=(refCheck TA).1:=⟨_,rfl⟩;rw [← hA] at hcA hlA hup huA
 have hup:∀ t∈listN A,0≤t.up∧t.up≤100:=fun t ht=>by
  have:=Aca.1 hup t ht;simpa using this
 have g:=G.refl w;refine Vw (m:=134) Tryz.func10 J J [] (Zr _) ?_;refine Zl (Zp (Xe J (Ze (kq (Zl (Zp (Xc J (Zx Zga Vb (aqc J aq0) J) (Xub pA qA _ ((hL.grow g).top)) ?_)))))));rintro v20 w20 ⟨⟨u20,rfl,p20,c20,rfl,k20⟩,g20⟩;refine ⟨fun _=>g20,?_⟩;have g:=g.trans g20;have k20:Kd w20 (fun k=>k<w20.heap.size) (refCheck TA).1.kids (.slice p20 (refCheck TA).1.kids.length c20):=Kd.mono k20 fun k _ h=>h;rw [rA,← hA];rw [← hA] at k20;refine Zw J (Qf J J (Qf J J (Qf J J (Yr J Zn J ?_))));intro b1 w1 N1;have l1:=N1.ge g;have nat1:=N1.at_;have nsz1:=N1.size;have gsz1:=g.size;have g:=g.trans N1.g;have k20:=k20.grow (N1.g);have E:=(Qh _).new N1;refine Jp Yf J J J E.g0 ?_;intro wS1 hgS1 _ BS;replace E:=E.s0 hgS1 BS;have g:=Yh g hgS1 O;have k20:=k20.keep hgS1 (fun k hk _ e=>by injection e with e;omega);refine Xe J (Xe J (Ze (kq (Zl (Zp (Xc J (Zx Zga Vb (aqc J aq0) J) (Xub pB qB _ ((hL.grow g).top)) ?_))))));rintro v25 w25 ⟨⟨u25,rfl,p25,c25,rfl,_⟩,g25⟩;refine ⟨fun _=>g25,?_⟩;have g:=g.trans g25;replace E:=E.grow g25;have k20:=k20.grow (g25);have sz25:=g25.size;rw [rB.1,rB.2];refine Zw J (Qf J J (Qf J J (Qf J J (Yr J Zn J ?_))));intro b4 w4 N4;have l4:=N4.ge g;have nat4:=N4.at_;have nsz4:=N4.size;have gsz4:=g.size;have g:=g.trans N4.g;have k20:=k20.grow (N4.g);replace E:=E.new N4;refine Jp Yf J J J E.g0 ?_;intro wS2 hgS2 _ BS;replace E:=E.s0 hgS2 BS;have g:=Yh g hgS2 O;have k20:=k20.keep hgS2 (fun k hk _ e=>by injection e with e;omega);refine Xe J (Xe J (Ze (kq (Zl (Zp (Xc J (Zx Zga Vb (aqc J aq0) J) (Xub pC qC _ ((hL.grow g).top)) ?_))))));rintro v30 w30 ⟨⟨u30,rfl,p30,c30,rfl,_⟩,g30⟩;refine ⟨fun _=>g30,?_⟩;have g:=g.trans g30;replace E:=E.grow g30
 have k20:=k20.grow (g30);have sz30:=g30.size;rw [rC.1,rC.2];refine Zw J (Qf J J (Qf J J (Qf J J (Yr J Zn J ?_))));intro b7 w7 N7;have l7:=N7.ge g;have nat7:=N7.at_;have nsz7:=N7.size;have gsz7:=g.size;have g:=g.trans N7.g;have k20:=k20.grow (N7.g);replace E:=E.new N7;refine Jp Yf J J J E.g0 ?_;intro wS3 hgS3 _ BS;replace E:=E.s0 hgS3 BS;have g:=Yh g hgS3 O;have k20:=k20.keep hgS3 (fun k hk _ e=>by injection e with e;omega);refine Xe J (Xe J (Ze (kq (Zl (Zp (Xc J (Zx Zga Vb (aqc J aq0) J) (Xub pD qD _ ((hL.grow g).top)) ?_))))));rintro v35 w35 ⟨⟨u35,rfl,p35,c35,rfl,_⟩,g35⟩;refine ⟨fun _=>g35,?_⟩;have g:=g.trans g35;replace E:=E.grow g35;have k20:=k20.grow (g35);have sz35:=g35.size;rw [rD.1,rD.2];refine Zw J (Qf J J (Qf J J (Qf J J (Yr J Zn J ?_))));intro b10 w10 N10;have l10:=N10.ge g;have nat10:=N10.at_;have nsz10:=N10.size;have gsz10:=g.size;have g:=g.trans N10.g;have k20:=k20.grow (N10.g);replace E:=E.new N10;refine Jp Yf J J J E.g0 ?_;intro wS4 hgS4 _ BS;replace E:=E.s0 hgS4 BS;have g:=Yh g hgS4 O;have k20:=k20.keep hgS4 (fun k hk _ e=>by injection e with e;omega);refine Xe J (Xe J (Ze (kq (Zl (Zp (Xc J (Zx Zga Vb (aqc J aq0) J) (Xub pE qE _ ((hL.grow g).top)) ?_))))));rintro v40 w40 ⟨⟨u40,rfl,p40,c40,rfl,_⟩,g40⟩;refine ⟨fun _=>g40,?_⟩;have g:=g.trans g40;replace E:=E.grow g40;have k20:=k20.grow (g40);have sz40:=g40.size;rw [rE.1,rE.2];refine Zw J (Qf J J (Qf J J (Qf J J (Yr J Zn J ?_))));intro b13 w13 N13;have l13:=N13.ge g;have nat13:=N13.at_;have nsz13:=N13.size;have gsz13:=g.size;have g:=g.trans N13.g;have k20:=k20.grow (N13.g);replace E:=E.new N13;refine Jp Yf J J J E.g0 ?_;intro wS5 hgS5 _ BS;replace E:=E.s0 hgS5 BS
 have g:=Yh g hgS5 O;have k20:=k20.keep hgS5 (fun k hk _ e=>by injection e with e;omega);refine Xe J (Xe J (Ze (kq (Zl (Zl (Zp (Zw J (Ysf J J (Zw J (Zv J J J (fun _=>Zu (Zc J)) (Zv J J J (fun _=>Xva (Yg J id) Xu) (Yb J (fun _=>Xv (Zc J) (Yg J id)) (Zw J (Zv J J J (fun _=>Zu (Zc J)) (Zv J J J (fun _=>Xva (Yg J id) Xu) (Yb J (fun _=>Xv (Zc J) (Yg J id)) (?_)))))))))))))))));refine Zw J (Zv J J J (fun _=>Zu (Zc J)) (Zv J J J (fun _=>Xva (Yg J id) Xu) (Yb J (fun _=>Xv (Zc J) (Yg J id)) (Zw J (Zv J J J (fun _=>Zu (Zc J)) (Zv J J J (fun _=>Xva (Yg J id) Xu) (Yb J (fun _=>Xv (Zc J) (Yg J id)) (Zw J (Zv J J J (fun _=>Zu (Zc J)) (Zv J J J (fun _=>Xva (Yg J id) Xu) (Yb J (fun _=>Xv (Zc J) (Yg J id)) (Zw J (Zv J J J (fun _=>Zu (Zc J)) (Zv J J J (fun _=>Xva (Yg J id) Xu) (Yb J (fun _=>Xv (Zc J) (Yg J id)) (?_))))))))))))))));refine Zw J (Zv J J J (fun _=>Zu (Zc J)) (Zv J J J (fun _=>Xva (Yg J id) Xu) (Yb J (fun _=>Xv (Zc J) (Yg J id)) (Zw J (Zv J J J (fun _=>Zu (Zc J)) (Zv J J J (fun _=>Xva (Yg J id) Xu) (Yb J (fun _=>Xv (Zc J) (Yg J id)) (Ve [(0,_,_),(1,_,_),(77,_,_)] (Za J (Za J (Za J (Zr _)))) (Ze (kq (Um J (fun h1=>?_) (fun h1=>?_))))))))))))
 ·exact absurd h1 Od
  done
 (try simp only [bsimp] at h1);refine Yw (kq (Zl (Zp (Wy Zf J J E.g4.row (Xc J (Zx Zxc Vb (aqc J aq0) J) (Uhe A _ (fun k=>k<w20.heap.size) _ k20 O) ?_)))));rintro v79 w79 ⟨hk79,g79⟩;refine ⟨fun _=>g79,?_⟩;have g:=g.trans g79;replace E:=E.grow g79;obtain ⟨p79,c79,rfl,_⟩:=id hk79;refine Xe J (Ze (kq (Zl (Zp (Xe J (Ze (kq (Zl (Zl (Zp (Xe J (Ze (kq (Yz (Qy (fun (i:Nat) u1=>(i≤(listN A).length)∧G w79 u1) [(0,True,_),(16,True,_)] (fun (i:Nat)=>[(17,True,.int .i64 (upS ((listN A).take i))),(18,True,.int .i64 i)]) (fun (i:Nat)=>(listN A).length-i) (0) ⟨Bla _,G.refl _⟩ (Za J (Za J (Za J (Za J (Zr _))))) ?_)))))))))))))));rintro i u1 ⟨hI1,gl1⟩;have g:=g.trans gl1;replace E:=E.grow gl1;have hk79:=hk79.grow gl1;refine Zl (Zl (Zp (Zw J (Zw J (Yqa Zd J (Zxb J J (Ze (kq (Um J (fun h2=>?_) (fun h2=>?_))))))))))
 ·replace h2:i<(listN A).length:=by simp only [Ycg] at h2;omega
  obtain ⟨e0,p1,c1,hcell,_⟩:=Ys (t:=lT (listN A)) hk79 (i:=i) h2;have eL:Zb (lT (listN A)) i=(listN A)[i]:=Xa (t:=lT (listN A)) h2;rw [eL] at hcell;have hb1:=Ybf (l:=(listN A).take i) fun t ht=>hup t (List.mem_of_mem_take ht);have hb2:=hup _ (Aja h2);have hb3:((listN A).take i).length≤1000:=by rw [Ata];omega
  refine Yw (kq (Zl (Yz (Zl (Zp (Zw J (Zw J (Zya Zd J J O e0 (Xb Xq J (Xn Yi J (hcell.one (i:=0) J) (Qxa J J (Zw J (Zv J J J (fun _=>Zu (Zc J)) (Zv J J J (fun _=>Zu (Zc J)) (Zv J J J (fun _=>Xp Zd (Yg J id) (Yg J id) (fun _=>O) (fun _=>e0)) (Zv J J J (fun _=>Zi Wd (Yg J id)) (?_)))))))))))))))));refine We J J J (Zt Xh (Yg J id) (fun _=>hcell.one (i:=1) J)) (Zv J J J (fun _=>Xdc (Yg J id) Xu) (Yb J (fun _=>Vg (Zc J) (Yg J id)) (Zw J (Zv J J J (fun _=>Zu (Zc J)) (Zv J J J (fun _=>Zu (Zc J)) (Zv J J J (fun _=>Xp Zd (Yg J id) (Yg J id) (fun _=>O) (fun _=>e0)) (Zv J J J (fun _=>Zi Jt (Yg J id)) (We J J J (Zt Yi (Yg J id) (fun _=>hcell.one (i:=7) J)) (Zv J J J (fun _=>Qja (Yg J id) Xu) (Yb J (fun _=>Vg (Zc J) (Yg J id)) (Zw J (Zv J J J (fun _=>Zu (Zc J)) (Zv J J J (fun _=>Zu (Zc J)) (Zv J J J (fun _=>Xp Zd (Yg J id) (Yg J id) (fun _=>O) (fun _=>e0)) (Zv J J J (fun _=>Zi Uf (Yg J id)) (?_))))))))))))))));refine We J J J (Zt Yi (Yg J id) (fun _=>hcell.one (i:=2) J)) (Zv J J J (fun _=>Qja (Yg J id) Xu) (Yb J (fun _=>Vg (Zc J) (Yg J id)) (Zw J (Zv J J J (fun _=>Zu (Zc J)) (Zv J J J (fun _=>Zu (Zc J)) (Zv J J J (fun _=>Xp Zd (Yg J id) (Yg J id) (fun _=>O) (fun _=>e0)) (Zv J J J (fun _=>Zi Yj (Yg J id)) (Zv J J J (fun _=>Zi Vdb (Yg J id)) (We J J J (Zt Yi (Yg J id) (fun _=>hcell.one (i:=5) J)) (Zv J J J (fun _=>Qja (Yg J id) Xu) (Yb J (fun _=>Vg (Zc J) (Yg J id)) (Ze (kq (Um J (fun h3=>?_) (fun h3=>?_)))))))))))))))
  ·have hu:useX (listN A)[i]=true:=h3
   refine Zp (Zw J (Zw J (Zw J (Zya Zd J J O e0 (Xb Jaa J (Xn Yi J (hcell.one (i:=8) J) (Qya J J O (Xe J (Ze (kq (Zp (Zw J (Qya J J O (Xe J (Ve [(17,_,_),(18,_,_),(0,_,_),(16,_,_)] (Za J (Za J (Za J (Za J (Zr _))))) (Ze (fun a ha=>?_)))))))))))))))));exact ⟨i+1,by rw [Vad h2,hu,Yhg];exact ha,⟨h2,gl1⟩,O⟩
  have hu:useX (listN A)[i]=false:=h3;refine Yw (kq (Zp (Zw J (Qya J J O (Xe J (Ve [(17,_,_),(18,_,_),(0,_,_),(16,_,_)] (Za J (Za J (Za J (Za J (Zr _))))) (Ze (fun a ha=>?_))))))));exact ⟨i+1,by rw [Vad h2,hu,Ygg,Int.add_zero];exact ha,⟨h2,gl1⟩,O⟩
 replace h2:i=(listN A).length:=by simp only [Ydg] at h2;omega
 subst h2;refine Xta J (kq (Zl (Zp (Zw J (Qxa J J (Xe J (Ze (kq (Wb (Vx J J ?_))))))))));rw [List.take_length,huA];exact ⟨rfl,g⟩
section
variable (F t:Nd) (x:Nat→Ck)
end
def Al(x t:Nd):Prop:=plainT x=plainT t
structure Pl (t:Nd) (c:Ck):Prop where
  ex:exprB t=true→∀ S,Al (c.ex S).1 t
  mem:t.kind=28→exprB t=true→∀ S,Al (c.mem S).1.1 t
  rcv:t.kind≠28→exprB t=true→∀ S,(c.rcv S).2=true→Al (c.rcv S).1 t
  cal:exprB t=true→∀ S,Al (c.cal S).1.1 t
  st:stmtB t=true→∀ S,Al (c.st S).1 t
  blk:blockB t=true→∀ S,Al (c.blk S).1 t
  ifs:ifB t=true→∀ S,Al (c.ifs S).1 t
  sts:blockB t=true→∀ S,Al (c.sts S).1 t
  cas:Qca t=true→∀ f S,Al (c.cas f S).1 t
theorem kid_1{t:Nd}(h:t.kids.length=1):t.kids=[Zb t 0]:=by
 unfold Zb
 match t.kids,h with
 | [a],_=>rfl
section
variable {F t:Nd} {x:Nat→Ck} {S:CSt}
theorem Vvf{t:Nd}(hx:exprB t=true)(h24:t.kind≠24)(h25:t.kind≠25)(h26:t.kind≠26)(h38:t.kind≠38)(h30:t.kind≠30)(h27:t.kind≠27)(h28:t.kind≠28)(h34:t.kind≠34):t.kind∈([29,31,32,33,35,36,37]:List Int):=by
 have hx:=(Aia.1 hx).1;unfold expK at hx;rw [Jpa] at hx;simp only [Ala,Bca,or_false] at hx ⊢;omega
theorem Vwf{t:Nd}(hb:stmtB t=true)(h10:t.kind≠10)(h18:t.kind≠18)(h12:t.kind≠12)(h22:t.kind≠22)(h6:t.kind≠6)(h11:t.kind≠11)(h19:t.kind≠19)(h20:t.kind≠20)(h16:t.kind≠16):t.kids.length=1∧exprB (Zb t 0)=true:=by
 have hx:=(Aia.1 hb).1;unfold stK at hx;rw [Jpa] at hx;simp only [Ala,Bca,or_false] at hx;rcases hx with e|e|e|e|e|e|e|e|e|e|e|e|e|e;exact absurd e h6;exact absurd e h10;exact absurd e h11;exact absurd e h12;exact sh13 e hb;exact sh14 e hb;exact sh15 e hb;exact absurd e h16;exact sh17 e hb;exact sh21 e hb;exact absurd e h18;exact absurd e h19;exact absurd e h20;exact absurd e h22
end
theorem Vqc{F:Nd}(h:validB F=true):F.kind=1∧permF F=true:=by
 unfold validB permB at h;simp only [Afa,Ycg] at h;exact ⟨h.1,h.2.1⟩
def tqB(x:Nd):Bool :=
 (!decide (x.kind=27) || !decide (x.ref=0))&&(!decide (x.kind=12) || (decide ((x.kids.length:Int)=2)&&Ug (Zb x 0).ty (Zb x 1).ty)) &&
 (!decide (x.kind=32) || (decide ((x.kids.length:Int)=2)&&((binT x.text (Zb x 0).ty (Zb x 1).ty).2&&tyEqB (binT x.text (Zb x 0).ty (Zb x 1).ty).1 x.ty)))
def AllQ(x:Nd):Prop:=∀ y∈listN x,tqB y=true
structure Tp (t:Nd) (c:Ck):Prop where
  ex:exprB t=true→∀ S,(c.ex S).2.ee=0→AllQ (c.ex S).1
  mem:t.kind=28→exprB t=true→∀ S,(c.mem S).2.ee=0→AllQ (c.mem S).1.1
  rcv:t.kind≠28→exprB t=true→∀ S,(c.rcv S).2=true→AllQ (c.rcv S).1
  cal:exprB t=true→∀ S,(c.cal S).2.ee=0→AllQ (c.cal S).1.1
  st:stmtB t=true→∀ S,(c.st S).2.ee=0→AllQ (c.st S).1
  blk:blockB t=true→∀ S,(c.blk S).2.ee=0→AllQ (c.blk S).1
  ifs:ifB t=true→∀ S,(c.ifs S).2.ee=0→AllQ (c.ifs S).1
  sts:blockB t=true→∀ S,(c.sts S).2.ee=0→AllQ (c.sts S).1
  cas:Qca t=true→∀ f S,(c.cas f S).2.ee=0→AllQ (c.cas f S).1
theorem Er.z{S T:CSt}(h:Er S T)(h0:T.ee=0):S.ee=0:=Decidable.byContradiction fun hn=>hn ((h hn).1.symm.trans h0)
theorem fs0{a e:Int}{S:CSt}(h:(failS a e S).ee=0)(he:e≠0:=by decide):False:=Whd he h
section
variable {F t:Nd} {x:Nat→Ck} {S:CSt}
end
theorem Zrc{F:Nd}(hv:validB F=true):∀ d∈F.kids,(d.kind=2∨d.kind=6∨d.kind=4)∧(d.kind=6→Yya d=false)∧permF d=true:=fun d hd=>by
 obtain ⟨h1,hp⟩:=Vqc hv;have hf:=Uha hp;rw [formB,h1] at hf;have hf:((!(F.kids.any Yya)&&everyB F (memK [2,6,4]))&&F.kids.all permF)=true:=hf;simp only [Afa,Bool.not_eq_true',Bda,everyB,Aca,memK,Ycg] at hf;have hk:=hf.1.2 d hd;simp only [Ala,Bca,or_false] at hk;exact ⟨hk,fun _=>by simpa using hf.1.1 d hd,hf.2 d hd⟩
structure Hq (t t':Nd):Prop where
  kind:t'.kind=t.kind
  text:t'.text=t.text
  of:ofF t'=ofF t
inductive InR (u:List UInt8→Bool):Nd→Nd→Prop
  | nd {t t':Nd} (h:Hq t t') (hu:u t.text=false) (hl:t'.kids.length=t.kids.length) (hk:∀ i,i<t.kids.length→InR u (Zb t i) (Zb t' i)):InR u t t'
  | bl {t t':Nd} (h:Hq t t') (hu:u t.text=false) (ht:t.kind=10) (hd:(Zb t' 0).kind=6∧u (Zb t' 0).text=true∧(Zb (Zb t' 0) 0).kind=7∧Uv (ofF (Zb (Zb t' 0) 0)).1=true∧(Zb (Zb t' 0) 1).kind=9) (hl:t'.kids.length=t.kids.length+1) (hk:∀ i,i<t.kids.length→InR u (Zb t i) (Zb t' (i+1))):InR u t t'
theorem InR.hq{u:List UInt8→Bool}{t t':Nd}(h:InR u t t'):Hq t t':=by cases h <;> assumption
theorem InR.u{u:List UInt8→Bool}{t t':Nd}(h:InR u t t'):u t.text=false:=by cases h <;> assumption
theorem Hq.refl(t:Nd):Hq t t:=⟨rfl,rfl,rfl⟩
theorem Vrc{t:Nd}{i:Nat}(h:¬ i<t.kids.length):Zb t i=nd0:=by unfold Zb;simp only [Ama];rw [Bpa O];rfl
structure Nk (u:List UInt8→Bool) (t t':Nd):Prop where
  h:Hq t t'
  n:u t.text=false
  l:t'.kids.length=t.kids.length
  k:∀ i,i<t.kids.length→InR u (Zb t i) (Zb t' i)
theorem Nk.q{u:List UInt8→Bool}{t t':Nd}(h:Nk u t t')(i:Nat):Hq (Zb t i) (Zb t' i):=by
 by_cases hi:i<t.kids.length;exact (h.k i hi).hq;rw [Vrc hi,Vrc (by rw [h.l];exact hi)];exact Hq.refl _
theorem InR.node{u:List UInt8→Bool}{t t':Nd}(h:InR u t t')(hk:t.kind≠10):Nk u t t':=by
 cases h with
 | nd h hu hl hk=>exact ⟨h,hu,hl,hk⟩
 | bl h hu ht=>exact absurd ht hk
/-! states -/
def er(v:Vr):List UInt8×Ty×Nat:=(v.name,v.typ,v.scope)
structure RU (u:List UInt8→Bool) (S S':CSt):Prop where
  vars:(S'.vars.filter fun v=>!u v.name).map er=S.vars.map er
  scope:S'.scope=S.scope
  result:S'.result=S.result
  ee:S'.ee=S.ee
  sc:Sc S
  sc':Sc S'
def NU(u:List UInt8→Bool)(S:CSt):Prop:=∀ v∈S.vars,v.scope=S.scope→u v.name=false
theorem Js(a e:Int)(S:CSt):(failS a e S).ee=bif decide (S.ee=0) then e else S.ee:=by unfold failS;cases decide (S.ee=0) <;> rfl
section
variable {u:List UInt8→Bool} {S S' U U':CSt}
theorem RU.frame(h:RU u S S')(h1:Vs S U)(h2:U.result=S.result)(k1:Vs S' U')(k2:U'.result=S'.result)(he:U'.ee=U.ee):RU u U U' :=
 ⟨by rw [k1.vars,h1.vars];exact h.vars,by rw [k1.scope,h1.scope,h.scope],by rw [k2,h2,h.result],he,h1.sc h.sc,k1.sc h.sc'⟩
theorem RU.fail(h:RU u S S')(a a' e:Int):RU u (failS a e S) (failS a' e S') :=
 h.frame (Zad a e S) (Qo a e S).2.2.2.2.1 (Zad a' e S') (Qo a' e S').2.2.2.2.1 (by rw [Js,Js,h.ee])
theorem RU.failu(h:RU u S S'){b b':Bool}(hb:b'=b)(a a' e:Int):RU u (failU b a e S) (failU b' a' e S'):=by
 subst hb;cases b';exact h.fail a a' e;exact h
theorem RU.open(h:RU u S S'):RU u (openS S) (openS S'):=⟨h.vars,congrArg (· + 1) h.scope,h.result,h.ee,Zob h.sc,Zob h.sc'⟩
theorem NU.open(h:RU u S S'):NU u (openS S'):=fun v hv he=>by have:=h.sc' v hv;have he:v.scope=S'.scope+1:=he;omega
theorem NU.vs(h:NU u S)(k:Vs S U):NU u U:=fun v hv he=>h v (k.vars▸hv) (he.trans k.scope)
theorem NU.decl(h:NU u S){s:List UInt8}(hs:u s=false)(y:Ty)(a:Int):NU u (declS s y a S):=fun v hv he=>by
 have hv:v∈S.vars++[⟨s,y,declN S,S.level,S.scope⟩]:=hv;have e:(declS s y a S).scope=S.scope:=(Xaa s y a S).scope;rcases List.mem_append.1 hv with q|q;exact h v q (he.trans e);rw [Bia.1 q];exact hs
theorem Vbd(l:List Vr)(s:List UInt8):(findV l s).map er=(l.map er).reverse.find? fun k=>decide (k.1=s):=by
 unfold findV;rw [← List.map_reverse,List.find?_map];rfl
theorem Wpe(l:List Vr){s:List UInt8}(hs:u s=false):findV (l.filter fun v=>!u v.name) s=findV l s:=by
 unfold findV;rw [← List.filter_reverse,List.find?_filter];congr 1;funext v;by_cases h:v.name=s;simp [h,hs];simp [h]
theorem RU.look(h:RU u S S'){s:List UInt8}(hs:u s=false):(findV S'.vars s).map er=(findV S.vars s).map er:=by
 rw [← Wpe S'.vars hs,Vbd,h.vars,← Vbd]
theorem RU.dup(h:RU u S S'){s:List UInt8}(hs:u s=false):dupV S' s=dupV S s:=by
 have e1:∀ (l:List Vr) (n:Nat),(l.any fun v=>decide (v.scope=n)&&decide (v.name=s))=(l.map er).any fun k=>decide (k.2.2=n)&&decide (k.1=s):=fun l n=>by rw [List.any_map];rfl
 have e2:(S'.vars.any fun v=>decide (v.scope=S'.scope)&&decide (v.name=s))=((S'.vars.filter fun v=>!u v.name).any fun v=>decide (v.scope=S'.scope)&&decide (v.name=s)):=by
  rw [List.any_filter];congr 1;funext v;by_cases h:v.name=s;simp [h,hs];simp [h]
 unfold dupV;rw [e2,e1,h.vars,← e1,h.scope]
theorem Vxf{s s':List UInt8}{y y':Ty}{a a':Int}(h:S'.ee=S.ee)(hd:dupV S' s'=dupV S s):(declS s' y' a' S').ee=(declS s y a S).ee:=by
 show (failU (!dupV S' s') a' 6 S').ee=(failU (!dupV S s) a 6 S).ee;rw [hd];cases (!dupV S s);show (failS a' 6 S').ee=(failS a 6 S).ee;rw [Js,Js,h];exact h
theorem RU.decl(h:RU u S S'){s:List UInt8}(hs:u s=false)(y:Ty)(a a':Int):RU u (declS s y a S) (declS s y a' S'):=by
 refine ⟨?_,(Xaa s y a' S').scope.trans (h.scope.trans (Xaa s y a S).scope.symm),?_,Vxf h.ee (h.dup hs),(Xaa s y a S).sc h.sc,(Xaa s y a' S').sc h.sc'⟩;show ((S'.vars++[(⟨s,y,declN S',S'.level,S'.scope⟩:Vr)]).filter fun v=>!u v.name).map er=(S.vars++[(⟨s,y,declN S,S.level,S.scope⟩:Vr)]).map er;rw [Bqa,Bba,Bba,h.vars];have e:([(⟨s,y,declN S',S'.level,S'.scope⟩:Vr)].filter fun v=>!u v.name)=[⟨s,y,declN S',S'.level,S'.scope⟩]:=by simp [hs]
 rw [e];show _++[(s,y,S'.scope)]=_++[(s,y,S.scope)];rw [h.scope];exact ((Uw _ _ _ S').2.2.2.2.1).trans (h.result.trans ((Uw _ _ _ S).2.2.2.2.1).symm)
theorem RU.decl1(h:RU u S S')(hn:NU u S'){s:List UInt8}(hs:u s=true)(y:Ty)(a:Int):RU u S (declS s y a S'):=by
 have hd:dupV S' s=false:=by
  unfold dupV;rw [Bda];intro v hv hq;simp only [Afa,Ycg] at hq;have:=hn v hv hq.1;rw [hq.2,hs] at this;cases this
 have e:declS s y a S' = { S' with next:=S'.next.set S'.level (declN S'+1),vars:=S'.vars++[⟨s,y,declN S',S'.level,S'.scope⟩] }:=by unfold declS;rw [hd];rfl
 refine ⟨?_,(Xaa s y a S').scope.trans h.scope,by rw [e];exact h.result,by rw [e];exact h.ee,h.sc,(Xaa s y a S').sc h.sc'⟩;show ((S'.vars++[(⟨s,y,declN S',S'.level,S'.scope⟩:Vr)]).filter fun v=>!u v.name).map er=S.vars.map er;have e:([(⟨s,y,declN S',S'.level,S'.scope⟩:Vr)].filter fun v=>!u v.name)=[]:=by simp [hs]
 rw [Bqa,e,List.append_nil,h.vars]
theorem RU.lit(h:RU u S S'):RU u (litS S) (litS S'):=⟨h.vars,h.scope,rfl,h.ee,h.sc,h.sc'⟩
theorem RU.unlit(h:RU u S S')(k:RU u U U'):RU u { U with level:=U.level-1,result:=S.result } { U' with level:=U'.level-1,result:=S'.result }:=⟨k.vars,k.scope,h.result,k.ee,k.sc,k.sc'⟩
end
def Hd(x y:Nd):Prop:=y.kind=x.kind∧y.ty=x.ty∧y.ref=x.ref
theorem Hd.refl(x:Nd):Hd x x:=⟨rfl,rfl,rfl⟩
theorem Xca{t t':Nd}(h:t'.kind=t.kind)(ks ks':List Nd){y y':Ty}(hy:y'=y):Hd (annT t ks y) (annT t' ks' y'):=⟨h,hy,rfl⟩
structure FlR (F F':Nd):Prop where
  s2:∀ s,decide ((findD F' 2 s).2<0)=decide ((findD F 2 s).2<0)
  s6:∀ s,decide (0≤(findD F' 6 s).2)=decide (0≤(findD F 6 s).2)
  t6:∀ s,(ofF (Zb (findD F' 6 s).1 0)).1=(ofF (Zb (findD F 6 s).1 0)).1
  s4:∀ s,decide (0≤(findD F' 4 s).2)=decide (0≤(findD F 4 s).2)
  p4:∀ s,(Zb (findD F' 4 s).1 0).kids.map (fun p=>(ofF (Zb p 0)).1)=(Zb (findD F 4 s).1 0).kids.map (fun p=>(ofF (Zb p 0)).1)
  r4:∀ s,ofF (Zb (findD F' 4 s).1 1)=ofF (Zb (findD F 4 s).1 1)
  k4:∀ s,(Zb (findD F' 4 s).1 1).kind=(Zb (findD F 4 s).1 1).kind
  fl:∀ s,Uh F' s=Uh F s
theorem FlR.f4{F F':Nd}(H:FlR F F')(s:List UInt8):fncTy (findD F' 4 s).1=fncTy (findD F 4 s).1:=by
 have e:=congrArg List.length (H.p4 s);rw [Aea,Aea] at e;unfold fncTy;rw [e,H.k4]
structure UnC (u:List UInt8→Bool) (t:Nd) (c c':Ck):Prop where
  ex:exprB t=true→∀ S S',RU u S S'→RU u (c.ex S).2 (c'.ex S').2∧Hd (c.ex S).1 (c'.ex S').1
  mem:t.kind=28→exprB t=true→∀ S S',RU u S S'→RU u (c.mem S).2 (c'.mem S').2∧(c'.mem S').1.2=(c.mem S).1.2∧Hd (c.mem S).1.1 (c'.mem S').1.1
  rcv:exprB t=true→∀ S S',RU u S S'→(c'.rcv S').2=(c.rcv S).2∧Hd (c.rcv S).1 (c'.rcv S').1
  cal:exprB t=true→∀ S S',RU u S S'→RU u (c.cal S).2 (c'.cal S').2∧(c'.cal S').1.2=(c.cal S).1.2
  st:stmtB t=true→∀ S S',RU u S S'→RU u (c.st S).2 (c'.st S').2∧(NU u S'→NU u (c'.st S').2)
  blk:blockB t=true→∀ S S',RU u S S'→RU u (c.blk S).2 (c'.blk S').2
  ifs:ifB t=true→∀ S S',RU u S S'→RU u (c.ifs S).2 (c'.ifs S').2
  sts:blockB t=true→∀ S S',RU u S S'→NU u S'→RU u (c.sts S).2 (c'.sts S').2
  cas:Qca t=true→∀ f S S',RU u S S'→RU u (c.cas f S).2 (c'.cas f S').2
section
variable {u:List UInt8→Bool} {F F' t t':Nd} {S S':CSt}
theorem Qud(H:FlR F F'){k k':Nd}(hk:Hq k k')(h:RU u S S'):RU u (pointerS F k S) (pointerS F' k' S'):=by
 unfold pointerS;rw [hk.kind,hk.text];cases decide (k.kind=8);exact h;exact h.failu (by rw [H.s2]) _ _ _
theorem Vsc(H:FlR F F'){k k':Nd}(hk:Hq k k')(h:RU u S S'):RU u (localS F k S) (localS F' k' S'):=(Qud H hk h).failu (by rw [hk.of]) _ _ _
theorem Yfd(H:FlR F F')(ht:Hq t t')(hu:u t.text=false)(h:RU u S S'):(lookR F' S' t').2=(lookR F S t).2∧Hd (lookR F S t).1 (lookR F' S' t').1:=by
 have hv:=h.look hu;unfold lookR;rw [ht.text]
 cases h1:findV S.vars t.text with
 | some v =>
  rw [h1] at hv
  cases h2:findV S'.vars t.text with
  | none=>rw [h2] at hv;cases hv
  | some w =>
   rw [h2] at hv;injection hv with hv;have hy:w.typ=v.typ:=congrArg (fun k:List UInt8×Ty×Nat=>k.2.1) hv;exact ⟨rfl,ht.kind,hy,rfl⟩
 | none =>
  rw [h1] at hv
  cases h2:findV S'.vars t.text with
  | some w=>rw [h2] at hv;cases hv
  | none =>
   dsimp only;rw [H.s6,H.s4,H.t6,H.f4];cases decide (0≤(findD F 6 t.text).2);cases decide (0≤(findD F 4 t.text).2);exact ⟨rfl,ht.kind,rfl,rfl⟩;exact ⟨rfl,ht.kind,rfl,rfl⟩;exact ⟨rfl,ht.kind,rfl,rfl⟩
theorem Qvd(H:FlR F F')(N:Nk u t t')(U:∀ i,UnC u (Zb t i) (ckX F t i) (ckX F' t' i))(ht:t.kind=28)(hx:exprB t=true)(h:RU u S S') :
 RU u (memR F t (ckX F t) S).2 (memR F' t' (ckX F' t') S').2∧(memR F' t' (ckX F' t') S').1.2=(memR F t (ckX F t) S).1.2∧Hd (memR F t (ckX F t) S).1.1 (memR F' t' (ckX F' t') S').1.1:=by
 obtain ⟨_,hl,h0⟩:=sh28 ht hx;obtain ⟨a,b⟩:=(U 0).ex h0 S S' h;unfold memR;dsimp only;rw [b.2.1,N.h.text,H.fl];cases decide (((ckX F t 0).ex S).1.ty.kind=4);exact ⟨a.fail _ _ _,rfl,Xca N.h.kind _ _ rfl⟩;simp only [Yhg];split;exact ⟨a,rfl,Xca N.h.kind _ _ rfl⟩;exact ⟨a.fail _ _ _,rfl,Xca N.h.kind _ _ rfl⟩
theorem Zdg(H:FlR F F')(N:Nk u t t')(U:∀ i,UnC u (Zb t i) (ckX F t i) (ckX F' t' i))(hx:exprB t=true)(h:RU u S S') :
 (rcvR F' t' (ckX F' t') S').2=(rcvR F t (ckX F t) S).2∧Hd (rcvR F t (ckX F t) S).1 (rcvR F' t' (ckX F' t') S').1:=by
 unfold rcvR;rw [N.h.kind];cases h27:decide (t.kind=27);cases h28:decide (t.kind=28);exact ⟨rfl,Hd.refl _⟩;obtain ⟨a,b,c⟩:=Qvd H N U (Yeg h28) hx h;simp only [Ygg,Yhg];rw [b,a.ee,c.2.1];exact ⟨rfl,c⟩;obtain ⟨b,c⟩:=Yfd H N.h N.n h;simp only [Yhg];rw [b,c.2.1,c.2.2];exact ⟨rfl,c⟩
theorem Ycf(N:Nk u t t')(U:∀ i,UnC u (Zb t i) (ckX F t i) (ckX F' t' i))(hk:t.kids.all exprB=true)(ps:List Ty)(h:RU u S S'):∀ i,i+1≤t.kids.length→RU u (argA t (ckX F t) ps S i).2 (argA t' (ckX F' t') ps S' i).2
 | 0,_=>h
 | i+1,hi=>by
  obtain ⟨a,b⟩:=(U (i+1)).ex (Wx hk O) _ _ (Ycf N U hk ps h i O);rw [argA,argA];exact a.failu (by rw [b.2.1]) _ _ _
theorem Vyf(N:Nk u t t')(U:∀ i,UnC u (Zb t i) (ckX F t i) (ckX F' t' i))(ht:t.kind=30)(hx:exprB t=true)(h:RU u S S') :
 RU u (callR t (ckX F t) S).2 (callR t' (ckX F' t') S').2∧Hd (callR t (ckX F t) S).1 (callR t' (ckX F' t') S').1:=by
 obtain ⟨h1,h2⟩:=sh30 ht hx;obtain ⟨a,b⟩:=(U 0).cal (Wx h2 h1) S S' h;unfold callR;dsimp only;rw [b,N.l];exact ⟨Ycf N U h2 _ (a.failu rfl _ _ _) _ O,Xca N.h.kind _ _ rfl⟩
theorem Vzf(N:Nk u t t')(U:∀ i,UnC u (Zb t i) (ckX F t i) (ckX F' t' i))(ht:t.kind=38)(hx:exprB t=true)(h:RU u S S') :
  RU u (litR t (ckX F t) S).2 (litR t' (ckX F' t') S').2∧Hd (litR t (ckX F t) S).1 (litR t' (ckX F' t') S').1 :=
 ⟨h.unlit ((U 0).blk (sh38 ht hx).2 _ _ h.lit),Xca N.h.kind _ _ rfl⟩
theorem un_op(N:Nk u t t')(U:∀ i,UnC u (Zb t i) (ckX F t i) (ckX F' t' i))(hx:exprB t=true)(hk:t.kind∈([29,31,32,33,35,36,37]:List Int))(h:RU u S S') :
 RU u (opR t (ckX F t) S).2 (opR t' (ckX F' t') S').2∧Hd (opR t (ckX F t) S).1 (opR t' (ckX F' t') S').1:=by
 have eu:unTy t'=unTy t:=by unfold unTy;rw [N.h.text]
 have A:=fun k=>(U 0).ex k S S' h;unfold opR;dsimp only [wantS];rw [N.h.kind,N.h.text,eu];cases h29:decide (t.kind=29)
 case true =>
  obtain ⟨hl,k0,k1⟩:=sh29 (Yeg h29) hx;obtain ⟨a,b⟩:=A k0;obtain ⟨c,d⟩:=(U 1).ex k1 _ _ (a.failu (b:=decide (((ckX F t 0).ex S).1.ty.kind=5)) (b':=decide (((ckX F' t' 0).ex S').1.ty.kind=5)) (by rw [b.2.1]) (Zb t 0).pos (Zb t' 0).pos 7);exact ⟨c.failu (by rw [d.2.1]) _ _ _,Xca N.h.kind _ _ rfl⟩
 cases h31:decide (t.kind=31)
 case true =>
  obtain ⟨a,b⟩:=A (sh31 (Yeg h31) hx).2.2;exact ⟨a.failu (by rw [b.2.1]) _ _ _,Xca N.h.kind _ _ rfl⟩
 cases h32:decide (t.kind=32)
 case true =>
  obtain ⟨_,hl,k0,k1⟩:=sh32 (Yeg h32) hx;obtain ⟨a,b⟩:=A k0;obtain ⟨c,d⟩:=(U 1).ex k1 _ _ a;simp only [Yhg,Ygg];rw [b.2.1,d.2.1];exact ⟨c.failu rfl _ _ _,Xca N.h.kind _ _ rfl⟩
 cases h33:decide (t.kind=33)
 case true =>
  obtain ⟨a,b⟩:=A (sh33 (Yeg h33) hx).2;exact ⟨a.failu (by rw [b.2.1]) _ _ _,Xca N.h.kind _ _ rfl⟩
 cases h37:decide (t.kind=37)
 case true =>
  obtain ⟨a,b⟩:=A (sh37 (Yeg h37) hx).2;exact ⟨a.failu (by rw [b.2.1]) _ _ _,Xca N.h.kind _ _ rfl⟩
 cases h35:decide (t.kind=35)
 case true =>
  obtain ⟨a,b⟩:=A (sh35 (Yeg h35) hx).2;exact ⟨a.failu (by rw [b.2.1]) _ _ _,Xca N.h.kind _ _ rfl⟩
 simp only [Ydg] at h29 h31 h32 h33 h37 h35;simp only [Ala,Bca,or_false] at hk;have h36:t.kind=36:=by omega
 rw [Yag h36];obtain ⟨a,b⟩:=A (sh36 h36 hx).2;exact ⟨a.failu (by rw [b.2.1]) _ _ _,Xca N.h.kind _ _ rfl⟩
theorem Uyf(H:FlR F F')(N:Nk u t t')(U:∀ i,UnC u (Zb t i) (ckX F t i) (ckX F' t' i))(hx:exprB t=true)(h:RU u S S') :
 RU u (exR F t (ckX F t) S).2 (exR F' t' (ckX F' t') S').2∧Hd (exR F t (ckX F t) S).1 (exR F' t' (ckX F' t') S').1:=by
 have nil:∀ y,RU u S S'∧Hd (annT t [] y) (annT t' [] y):=fun y=>⟨h,Xca N.h.kind _ _ rfl⟩;unfold exR;rw [N.h.kind];cases h24:decide (t.kind=24);case true=>exact nil _
 cases h25:decide (t.kind=25);case true=>exact nil _
 cases h26:decide (t.kind=26);case true=>exact nil _
 cases h38:decide (t.kind=38);case true=>exact Vzf N U (Yeg h38) hx h
 cases h30:decide (t.kind=30);case true=>exact Vyf N U (Yeg h30) hx h
 cases h27:decide (t.kind=27)
 case true =>
  obtain ⟨b,c⟩:=Yfd H N.h N.n h;simp only [Yhg,Ygg];rw [b,c.2.1];refine ⟨?_,c⟩;cases (lookR F S t).2;exact h.fail _ _ _;exact h.failu rfl _ _ _
 cases h28:decide (t.kind=28)
 case true =>
  obtain ⟨a,b,c⟩:=Qvd H N U (Yeg h28) hx h;simp only [Yhg,Ygg];rw [b,c.2.1];exact ⟨a.failu rfl _ _ _,c⟩
 cases h34:decide (t.kind=34)
 case true =>
  simp only [Yhg,Ygg];rw [N.h.text,H.s2];exact ⟨h.failu rfl _ _ _,Xca N.h.kind _ _ rfl⟩
 simp only [Ydg] at h24 h25 h26 h38 h30 h27 h28 h34;exact un_op N U hx (Vvf hx h24 h25 h26 h38 h30 h27 h28 h34) h
theorem Zeg(H:FlR F F')(N:Nk u t t')(U:∀ i,UnC u (Zb t i) (ckX F t i) (ckX F' t' i))(hx:exprB t=true)(h:RU u S S') :
 RU u (calR F t (ckX F t) S).2 (calR F' t' (ckX F' t') S').2∧(calR F' t' (ckX F' t') S').1.2=(calR F t (ckX F t) S).1.2:=by
 have fin:RU u (failU (tyEqB (exR F t (ckX F t) S).1.ty tFunc) t.pos 7 (exR F t (ckX F t) S).2) (failU (tyEqB (exR F' t' (ckX F' t') S').1.ty tFunc) t'.pos 7 (exR F' t' (ckX F' t') S').2):=by
  obtain ⟨a,b⟩:=Uyf H N U hx h;exact a.failu (by rw [b.2.1]) _ _ _
 unfold calR;dsimp only;rw [N.h.kind,N.h.text];cases h28:decide (t.kind=28);simp only [Bool.false_and,Ygg];cases h27:decide (t.kind=27);exact ⟨fin,rfl⟩;obtain ⟨b,c⟩:=Yfd H N.h N.n h;rw [b,c.2.2,H.p4,H.r4];simp only [Bool.true_and];cases ((lookR F S t).2&&decide ((lookR F S t).1.ref=3));exact ⟨fin,rfl⟩;exact ⟨h,rfl⟩;have ht:=Yeg h28;obtain ⟨_,hl,k0⟩:=sh28 ht hx;obtain ⟨b,c⟩:=(U 0).rcv k0 S S' h;rw [Zzg (show ¬ t.kind=27 by omega),b];simp only [Bool.true_and,Bool.false_and,Ygg];cases hr:((ckX F t 0).rcv S).2;exact ⟨fin,rfl⟩
 have q:RU u (rcvX t (ckX F t) S).2 (rcvX t' (ckX F' t') S').2∧Hd (rcvX t (ckX F t) S).1 (rcvX t' (ckX F' t') S').1:=by
  unfold rcvX;rw [(N.q 0).kind];cases h3:decide ((Zb t 0).kind=28);exact ⟨h,c⟩;obtain ⟨a,_,d⟩:=(U 0).mem (Yeg h3) k0 S S' h;exact ⟨a,d⟩
 simp only [Yhg];rw [q.2.2.1];exact ⟨q.1.failu rfl _ _ _,rfl⟩
end
section
variable {u:List UInt8→Bool} {F F' t t':Nd} {S S':CSt}
theorem Ydf(N:Nk u t t')(U:∀ i,UnC u (Zb t i) (ckX F t i) (ckX F' t' i))(hb:t.kids.all stmtB=true)(h:RU u S S'):∀ i,i≤t.kids.length→RU u (stA (ckX F t) S i).2 (stA (ckX F' t') S' i).2
 | 0,_=>h
 | i+1,hi=>((U i).st (Wx hb O) _ _ (Ydf N U hb h i O)).1
theorem Zfg(N:Nk u t t')(U:∀ i,UnC u (Zb t i) (ckX F t i) (ckX F' t' i))(hb:blockB t=true)(h:RU u S S'):RU u (stsR t (ckX F t) S).2 (stsR t' (ckX F' t') S').2:=by
 unfold stsR;rw [N.l];exact Ydf N U (sh10 hb) h _ (Aba _)
theorem Uaf(h:RU u S S')(k:RU u (openS S) (openS S')→RU u (stsR t (ckX F t) (openS S)).2 (stsR t' (ckX F' t') (openS S')).2):RU u (blkR t (ckX F t) S).2 (blkR t' (ckX F' t') S').2 :=
 h.frame (Zbc (Xib F t) h.sc) (Yuc (Xhb F t) S).result (Zbc (Xib F' t') h.sc') (Yuc (Xhb F' t') S').result (k h.open).ee
theorem Yie{k k':Nd}{c c':Ck}(q:Hq k k')(C:exprB k=true→∀ S S',RU u S S'→RU u (c.ex S).2 (c'.ex S').2∧Hd (c.ex S).1 (c'.ex S').1)(hx:noneB k=true∨exprB k=true)(h:RU u S S'):RU u (condR k c S).2 (condR k' c' S').2:=by
 unfold condR;rw [q.kind];cases h1:decide (k.kind=9);obtain ⟨a,b⟩:=C (hx.resolve_left fun q=>Yfg h1 (Jo q).1) S S' h;exact a.failu (by rw [b.2.1]) _ _ _;exact h
theorem Uzf(N:Nk u t t')(U:∀ i,UnC u (Zb t i) (ckX F t i) (ckX F' t' i))(hb:ifB t=true)(h:RU u S S'):RU u (ifR t (ckX F t) S).2 (ifR t' (ckX F' t') S').2:=by
 obtain ⟨hl,k0,k1,k2⟩:=sh18 hb;have a:=(U 1).blk k1 _ _ (Yie (N.q 0) (U 0).ex (.inr k0) h);unfold ifR;dsimp only;rw [(N.q 2).kind];cases h3:decide ((Zb t 2).kind=10);cases h4:decide ((Zb t 2).kind=18);exact a;have h4:=Yeg h4;refine (U 2).ifs ?_ _ _ a;rcases k2 with q|q|q;rw [Qp q] at h4;cases h4;exact q;rw [(Jo q).1] at h4;cases h4;have h3:=Yeg h3;refine (U 2).blk ?_ _ _ a;rcases k2 with q|q|q;exact q;rw [show (Zb t 2).kind=18 from Yeg (Aia.1 q).1] at h3;cases h3;rw [(Jo q).1] at h3;cases h3
theorem Zgg(N:Nk u t t')(U:∀ i,UnC u (Zb t i) (ckX F t i) (ckX F' t' i))(hb:Qca t=true)(f:Bool)(h:RU u S S'):RU u (casR t (ckX F t) f S).2 (casR t' (ckX F' t') f S').2:=by
 obtain ⟨hk,hl,hc,hb1⟩:=sh23 hb;refine h.frame (Uld (Xib F t) f h.sc) (Jzc (Xhb F t) f S).result (Uld (Xib F' t') f h.sc') (Jzc (Xhb F' t') f S').result ?_
 have a:RU u (bif decide ((Zb t 0).kind=9) then (clnT (Zb t 0),failU f t.pos 6 (openS S)) else ((ckX F t) 0).st (openS S)).2 (bif decide ((Zb t' 0).kind=9) then (clnT (Zb t' 0),failU f t'.pos 6 (openS S')) else ((ckX F' t') 0).st (openS S')).2∧NU u (bif decide ((Zb t' 0).kind=9) then (clnT (Zb t' 0),failU f t'.pos 6 (openS S')) else ((ckX F' t') 0).st (openS S')).2:=by
  rw [(N.q 0).kind];cases h3:decide ((Zb t 0).kind=9);obtain ⟨p,q⟩:=(U 0).st ((Uxc hc).resolve_left (Yfg h3)) _ _ h.open;exact ⟨p,q (NU.open h)⟩;exact ⟨h.open.failu rfl _ _ _,(NU.open h).vs (Xkd _ _ _ _)⟩
 exact ((U 1).sts hb1 _ _ a.1 a.2).ee
theorem Qwd(N:Nk u t t')(hb:t.kids.all Qca=true){i:Nat}(hi:i<t.kids.length):(Zb (Zb t' i) 0).kind=(Zb (Zb t i) 0).kind:=by
 have h:=(sh23 (Wx hb hi)).1;exact (((N.k i hi).node O).q 0).kind
theorem Yje(N:Nk u t t')(U:∀ i,UnC u (Zb t i) (ckX F t i) (ckX F' t' i))(hb:t.kids.all Qca=true)(h:RU u S S'):∀ i,i≤t.kids.length→RU u (selA t (ckX F t) S i).2.2 (selA t' (ckX F' t') S' i).2.2∧(selA t' (ckX F' t') S' i).2.1=(selA t (ckX F t) S i).2.1
 | 0,_=>⟨h,rfl⟩
 | i+1,hi=>by
  obtain ⟨a,b⟩:=Yje N U hb h i O;rw [selA,selA];dsimp only;rw [b,Qwd N hb O];exact ⟨(U i).cas (Wx hb O) _ _ _ a,rfl⟩
theorem Zhg(H:FlR F F')(N:Nk u t t')(U:∀ i,UnC u (Zb t i) (ckX F t i) (ckX F' t' i))(hb:varB t=true)(h:RU u S S'):RU u (varR F t (ckX F t) S).2 (varR F' t' (ckX F' t') S').2∧(NU u S'→NU u (varR F' t' (ckX F' t') S').2):=by
 obtain ⟨_,hl,k0,k1⟩:=sh6 hb;have l:=Vsc H (N.q 0) h;unfold varR;dsimp only;rw [(N.q 1).kind,(N.q 0).of,N.h.text];cases h2:decide ((Zb t 1).kind=9);obtain ⟨a,b⟩:=(U 1).ex (k1.resolve_left fun q=>Yfg h2 (Jo q).1) _ _ l;simp only [Ygg];rw [b.2.1];exact ⟨(a.failu rfl _ _ _).decl N.n _ _ _,fun n=>NU.decl (n.vs ((((Yba F' _ S').trans ((Xib F' t' 1).ex _ ((Yba F' _ S').sc h.sc'))).failu _ _ _))) N.n _ _⟩;exact ⟨l.decl N.n _ _ _,fun n=>NU.decl (n.vs (Yba F' _ S')) N.n _ _⟩
theorem Zig(N:Nk u t t')(U:∀ i,UnC u (Zb t i) (ckX F t i) (ckX F' t' i))(ht:t.kind=11)(hb:stmtB t=true)(h:RU u S S'):RU u (defR t (ckX F t) S).2 (defR t' (ckX F' t') S').2∧(NU u S'→NU u (defR t' (ckX F' t') S').2):=by
 obtain ⟨a,b⟩:=(U 0).ex (sh11 ht hb).2.2 _ _ h;unfold defR;dsimp only;rw [b.2.1,N.h.text];exact ⟨(a.failu rfl _ _ _).decl N.n _ _ _,fun n=>NU.decl (n.vs (((Xib F' t' 0).ex S' h.sc').failu _ _ _)) N.n _ _⟩
theorem Zjg(N:Nk u t t')(U:∀ i,UnC u (Zb t i) (ckX F t i) (ckX F' t' i))(ht:t.kind=12)(hb:stmtB t=true)(h:RU u S S'):RU u (asgR t (ckX F t) S).2 (asgR t' (ckX F' t') S').2:=by
 obtain ⟨hl,k0,k1⟩:=sh12 ht hb;obtain ⟨a,b⟩:=(U 0).ex k0 _ _ h;unfold asgR;dsimp only;rw [b.1,b.2.1,b.2.2];obtain ⟨c,d⟩:=(U 1).ex k1 _ _ (a.failu (b:=((decide (((ckX F t 0).ex S).1.kind=27) && !decide (((ckX F t 0).ex S).1.ref=3)) || decide (((ckX F t 0).ex S).1.kind=28)) || decide (((ckX F t 0).ex S).1.kind=29)) rfl (Zb t 0).pos (Zb t' 0).pos 7);rw [d.2.1];exact c.failu rfl _ _ _
theorem Zkg(N:Nk u t t')(U:∀ i,UnC u (Zb t i) (ckX F t i) (ckX F' t' i))(ht:t.kind=19)(hb:stmtB t=true)(h:RU u S S'):RU u (forR t (ckX F t) S).2 (forR t' (ckX F' t') S').2:=by
 obtain ⟨hl,k0,k1⟩:=sh19 ht hb;exact (U 1).blk k1 _ _ (Yie (N.q 0) (U 0).ex k0 h)
theorem Zlg(N:Nk u t t')(U:∀ i,UnC u (Zb t i) (ckX F t i) (ckX F' t' i))(ht:t.kind=20)(hb:stmtB t=true)(h:RU u S S'):RU u (retR t (ckX F t) S).2 (retR t' (ckX F' t') S').2:=by
 obtain ⟨h1,h2⟩:=sh20 ht hb;unfold retR;dsimp only;rw [N.l,h.result];cases h3:decide ((t.kids.length:Int)=1);exact h.failu rfl _ _ _;have h3:=Yeg h3;obtain ⟨a,b⟩:=(U 0).ex (Wx h2 O) _ _ (h.failu (b:=!Bool.xor true (!tyEqB S.result ty0)) rfl t.pos t'.pos 7);simp only [Yhg];rw [b.2.1,a.result];exact a.failu rfl _ _ _
theorem un_st(H:FlR F F')(N:Nk u t t')(U:∀ i,UnC u (Zb t i) (ckX F t i) (ckX F' t' i))(hb:stmtB t=true)(h10:t.kind≠10)(h:RU u S S') :
 RU u (stR F t (ckX F t) S).2 (stR F' t' (ckX F' t') S').2∧(NU u S'→NU u (stR F' t' (ckX F' t') S').2):=by
 have X':=Xib F' t';unfold stR;dsimp only;rw [N.h.kind,Zzg h10];simp only [Ygg];cases h18:decide (t.kind=18);case true=>exact ⟨Uzf N U (sh18s (Yeg h18) hb) h,fun n=>n.vs (Jsd X' h.sc')⟩
 cases h12:decide (t.kind=12);case true=>exact ⟨Zjg N U (Yeg h12) hb h,fun n=>n.vs (Ukd X' h.sc')⟩
 cases h22:decide (t.kind=22)
 case true =>
  refine ⟨?_,fun n=>n.vs (Web X' h.sc' _)⟩;simp only [Yhg,Ygg];unfold selR;rw [N.l];exact (Yje N U (sh22 (Yeg h22) hb) h _ (Aba _)).1
 cases h6:decide (t.kind=6);case true=>exact Zhg H N U (sh6s (Yeg h6) hb) h
 cases h11:decide (t.kind=11);case true=>exact Zig N U (Yeg h11) hb h
 cases h19:decide (t.kind=19);case true=>exact ⟨Zkg N U (Yeg h19) hb h,fun n=>n.vs (Umd X' h.sc')⟩
 cases h20:decide (t.kind=20);case true=>exact ⟨Zlg N U (Yeg h20) hb h,fun n=>n.vs (Und X' h.sc')⟩
 have v:=(X' 0).ex S' h.sc';simp only [Ygg,wantS];cases h16:decide (t.kind=16)
 case true =>
  obtain ⟨hl,k0,k1⟩:=sh16 (Yeg h16) hb;obtain ⟨a,b⟩:=(U 0).ex k0 _ _ h;obtain ⟨c,d⟩:=(U 1).ex k1 _ _ (a.failu (b:=decide (((ckX F t 0).ex S).1.ty.kind=6)) (b':=decide (((ckX F' t' 0).ex S').1.ty.kind=6)) (by rw [b.2.1]) (Zb t 0).pos (Zb t' 0).pos 7);exact ⟨c.failu (congrArg (fun y:Ty=>decide (y.kind=1)) d.2.1) _ _ _,fun n=>n.vs ((Vs.ex X' (v.failu _ _ _) h.sc' 1).failu _ _ _)⟩
 simp only [Ydg] at h18 h12 h22 h6 h11 h19 h20 h16;obtain ⟨hl,k0⟩:=Vwf hb h10 h18 h12 h22 h6 h11 h19 h20 h16;obtain ⟨a,b⟩:=(U 0).ex k0 _ _ h;cases decide (t.kind=17);case true=>exact ⟨a.failu (by rw [b.2.1]) _ _ _,fun n=>n.vs (v.failu _ _ _)⟩
 cases decide (t.kind=21);case true=>exact ⟨a.failu (by rw [b.2.1]) _ _ _,fun n=>n.vs (v.failu _ _ _)⟩
 exact ⟨a,fun n=>n.vs v⟩
theorem un_f(H:FlR F F')(N:Nk u t t')(U:∀ i,UnC u (Zb t i) (ckX F t i) (ckX F' t' i))(h10:t.kind≠10):UnC u t (ckF F t (ckX F t)) (ckF F' t' (ckX F' t')) :=
 ⟨fun hx S S' h=>Uyf H N U hx h,fun ht hx S S' h=>Qvd H N U ht hx h,fun hx S S' h=>Zdg H N U hx h,fun hx S S' h=>Zeg H N U hx h,fun hb S S' h=>un_st H N U hb h10 h,
  fun hb S S' h=>absurd (Qp hb) h10,fun hb S S' h=>Uzf N U hb h,fun hb S S' h=>absurd (Qp hb) h10,fun hb f S S' h=>Zgg N U hb f h⟩
theorem un_fb(h10:t.kind=10)(h10':t'.kind=10)(k:blockB t=true→∀ S S',RU u S S'→NU u S'→RU u (stsR t (ckX F t) S).2 (stsR t' (ckX F' t') S').2):UnC u t (ckF F t (ckX F t)) (ckF F' t' (ckX F' t')):=by
 have he:exprB t=false:=by
  cases h:exprB t;rfl;have hx:=(Aia.1 h).1;unfold expK at hx;rw [Jpa,h10] at hx;revert hx;decide
 have b:blockB t=true→∀ S S',RU u S S'→RU u (blkR t (ckX F t) S).2 (blkR t' (ckX F' t') S').2:=fun hb S S' h=>Uaf h fun h1=>k hb _ _ h1 (NU.open h);refine ⟨fun hx=>?_,fun ht=>?_,fun hx=>?_,fun hx=>?_,fun hb S S' h=>?_,b,fun hb=>?_,k,fun hb=>?_⟩;rw [he] at hx;cases hx;rw [h10] at ht;cases ht;rw [he] at hx;cases hx;rw [he] at hx;cases hx;show RU u (stR F t (ckX F t) S).2 (stR F' t' (ckX F' t') S').2∧(NU u S'→NU u (stR F' t' (ckX F' t') S').2);unfold stR;rw [Yag h10,Yag h10'];exact ⟨b (sh10s h10 hb) S S' h,fun n=>n.vs (Zbc (Xib F' t') h.sc')⟩;have:=Yeg (Aia.1 hb).1;omega;have:=(sh23 hb).1;omega
theorem un_0(u:List UInt8→Bool):UnC u nd0 ck0 ck0:=by
 refine ⟨fun h=>?_,fun _ h=>?_,fun h=>?_,fun h=>?_,fun h=>?_,fun h=>?_,fun h=>?_,fun h=>?_,fun h=>?_⟩;exact absurd h Od;exact absurd h Od;exact absurd h Od;exact absurd h Od;exact absurd h Od;exact absurd h Od;exact absurd h Od;exact absurd h Od;exact absurd h Od
theorem Vcd{F t:Nd}{i:Nat}(h:¬ i<t.kids.length):ckX F t i=ck0:=by rw [ckX];simp only [Ama,List.getElem?_map];rw [Bpa O];rfl
theorem un_t(H:FlR F F'):∀ t t',InR u t t'→UnC u t (ckT F t) (ckT F' t'):=by
 refine Nd.ind fun t ih t' h=>?_;rw [Jy,Jy F']
 have U:∀ {N:Nk u t t'} i,UnC u (Zb t i) (ckX F t i) (ckX F' t' i):=fun {N} i=>by
  by_cases hi:i<t.kids.length;rw [Wf hi,Wf (by rw [N.l];exact hi)];have h1:=N.k i hi;rw [Xa hi] at h1 ⊢;exact ih _ (Aja hi) _ h1;rw [Vcd hi,Vcd (by rw [N.l];exact hi),Vrc hi];exact un_0 u
 by_cases h10:t.kind=10;refine un_fb h10 (h.hq.kind.trans h10) fun hb S S' hr hn=>?_
 cases h with
 | nd hq hu hl hk=>exact Zfg ⟨hq,hu,hl,hk⟩ (U (N:=⟨hq,hu,hl,hk⟩)) hb hr
 | bl hq hu ht hd hl hk =>
  unfold stsR;rw [hl];obtain ⟨d1,d2,d3,d4,d5⟩:=hd
  have e1:(stA (ckX F' t') S' 1).2=declS (Zb t' 0).text (ofF (Zb (Zb t' 0) 0)).1 (Zb t' 0).pos S':=by
   show ((ckX F' t' 0).st S').2=_;rw [Wf O,Jy];show (stR F' (Zb t' 0) (ckX F' (Zb t' 0)) S').2=_;unfold stR;rw [d1];show (varR F' (Zb t' 0) _ S').2=_;unfold varR localS pointerS;rw [d3,d4,d5];rfl
  have q:∀ i,i≤t.kids.length→RU u (stA (ckX F t) S i).2 (stA (ckX F' t') S' (i+1)).2:=by
   intro i
   induction i with
   | zero=>intro _;rw [e1];exact hr.decl1 hn d2 _ _
   | succ i ihq =>
    intro hi;have a:=ihq O;have k:=hk i O;have b:=ih t.kids[i] (Aja O) (Zb t' (i+1)) (by rw [← Xa];exact k);have hs:=Wx (sh10 hb) (show i<t.kids.length by omega);rw [Xa (show i<t.kids.length by omega)] at hs;have c:=(b.st hs _ _ a).1;show RU u ((ckX F t i).st _).2 ((ckX F' t' (i+1)).st _).2;rw [Wf (show i<t.kids.length by omega),Wf (show i+1<t'.kids.length by omega),Xa (show i<t.kids.length by omega)];exact c
  exact q _ (Aba _)
 exact un_f H (h.node h10) (U (N:=h.node h10)) h10
theorem Wqe{t t':Nd}(h1:t'.kind=t.kind)(h2:(Zb t' 0).kind=(Zb t 0).kind)(h3:(Zb t' 2).kind=(Zb t 2).kind)(h4:t'.kids.map endT=t.kids.map endT):endT t'=endT t:=by
 rw [Yza,Yza t,h4];unfold endP;rw [h1,h2,h3]
theorem Zmg:∀ t t',InR u t t'→endT t'=endT t:=by
 refine Nd.ind fun t ih t' h=>?_
 cases h with
 | nd hq hu hl hk =>
  have N:Nk u t t':=⟨hq,hu,hl,hk⟩;refine Wqe hq.kind (N.q 0).kind (N.q 2).kind (List.ext_getElem (by rw [Aea,Aea,hl]) fun i h1 h2=>?_);rw [Bea,Bea];have hi:i<t.kids.length:=by rwa [Aea] at h2
  have k:=hk i hi;rw [Xa hi,Xa (hl▸hi)] at k;exact ih _ (Aja hi) _ k
 | bl hq hu ht hd hl hk =>
  have e:(t'.kids.map endT).getLast?.getD (false,false)=(t.kids.map endT).getLast?.getD (false,false)∨((t'.kids.map endT).getLast?.getD (false,false)).1=((t.kids.map endT).getLast?.getD (false,false)).1:=by
   rcases Nat.eq_zero_or_pos t.kids.length with h0|h0;right;have h1:t'.kids.length=1:=by omega
   have e1:=kid_1 h1;rw [e1,List.length_eq_zero_iff.1 h0];show (endT (Zb t' 0)).1=false;rw [Yza];unfold endP;rw [hd.1];rfl;left;rw [List.getLast?_map,List.getLast?_map,Bra,Bra,Ana (show t'.kids.length-1<t'.kids.length by omega),Ana (show t.kids.length-1<t.kids.length by omega)];have k:=hk (t.kids.length-1) O;have e1:t.kids.length-1+1=t'.kids.length-1:=by omega
   rw [e1,Xa (show t.kids.length-1<t.kids.length by omega),Xa (show t'.kids.length-1<t'.kids.length by omega)] at k;show endT _=endT _;exact ih _ (Aja _) _ k
  have e:((t'.kids.map endT).getLast?.getD (false,false)).1=((t.kids.map endT).getLast?.getD (false,false)).1:=e.elim (congrArg Prod.fst) id;rw [Yza,Yza t];unfold endP;rw [hq.kind,ht];show (((t'.kids.map endT).getLast?.getD (false,false)).1,((t'.kids.map endT).getLast?.getD (false,false)).1)=_;rw [e];rfl
/-! declarations -/
theorem Yke(H:FlR F F')(N:Nk u t t')(hp:∀ f∈t.kids,f.kind=3)(h:RU u S S')(hn:NU u S'):∀ i,i≤t.kids.length→RU u (parA F t S i).2 (parA F' t' S' i).2∧NU u (parA F' t' S' i).2
 | 0,_=>⟨h,hn⟩
 | i+1,hi=>by
  obtain ⟨a,b⟩:=Yke H N hp h hn i O;have k:=N.k i O;have hk:(Zb t i).kind=3:=hp _ (by rw [Xa (show i<t.kids.length by omega)];exact Aja _);have M:=k.node O;rw [parA,parA];dsimp only;rw [M.h.text,(M.q 0).of];exact ⟨Vsc H (M.q 0) (a.decl M.n _ _ _),(NU.decl b M.n _ _).vs (Yba F' _ _)⟩
theorem sc_0(S:CSt):Sc (funS0 S):=fun v hv=>by cases hv
theorem Wre(a e:Int)(S:CSt)(r:Ty):failS a e { S with result:=r } = { failS a e S with result:=r }:=by
 unfold failS;show (bif decide (S.ee=0) then _ else _)=_;cases decide (S.ee=0) <;> rfl
theorem Zsc(b:Bool)(a e:Int)(S:CSt)(r:Ty):failU b a e { S with result:=r } = { failU b a e S with result:=r }:=by
 cases b;exact Wre a e S r;rfl
theorem Vdd(F n:Nd)(S:CSt)(r:Ty):pointerS F n { S with result:=r } = { pointerS F n S with result:=r }:=by
 unfold pointerS;cases decide (n.kind=8);rfl;exact Zsc _ _ _ S r
theorem Wse(F n:Nd)(S:CSt)(r:Ty):localS F n { S with result:=r } = { localS F n S with result:=r }:=by
 unfold localS;rw [Vdd,Zsc]
theorem Yef(s:List UInt8)(y:Ty)(a:Int)(S:CSt)(r:Ty):declS s y a { S with result:=r } = { declS s y a S with result:=r }:=by
 have e:=Zsc (!dupV S s) a 6 S r;unfold declS;show ({ failU (!dupV S s) a 6 { S with result:=r } with next:=_,vars:=_ }:CSt)=_;rw [e];rfl
theorem Ved(F p:Nd)(S:CSt)(r:Ty):∀ i,(parA F p { S with result:=r } i).2 = { (parA F p S i).2 with result:=r }
 | 0=>rfl
 | i+1=>by
  rw [parA,parA];dsimp only;rw [Ved F p S r i,Yef,Wse]
theorem Zng(H:FlR F F'){n n':Nd}(N:InR u n n')(hk:n.kind=4)(hp:permF n=true)(he:S'.ee=S.ee):(funR F' n' S').2.ee=(funR F n S).2.ee:=by
 obtain ⟨hl,⟨p1,p2⟩,hr,b1,b2⟩:=pf4 hk hp;have M:=N.node O;have h0:RU u { funS0 S with result:=ty0 } { funS0 S' with result:=ty0 }:=⟨rfl,rfl,rfl,he,sc_0 S,sc_0 S'⟩;have Np:=(M.k 0 O).node O;have e1:∀ F n S,funS1 F n S=(parA F (Zb n 0) { funS0 S with result:=ty0 } (Zb n 0).kids.length).2:=fun F n S=>(Ved F (Zb n 0) (funS0 S) ty0 (Zb n 0).kids.length).symm;obtain ⟨a,b⟩:=Yke H Np (fun f hf=>(Xsa (.inr p1) p2 f hf).1) h0 (fun v hv=>by cases hv) _ (Aba _);have s1:RU u (funS1 F n S) (funS1 F' n' S'):=by rw [e1,e1,Np.l];exact a
 have n1:NU u (funS1 F' n' S'):=by rw [e1,Np.l];exact b
 have s2:RU u (funS2 F n S) (funS2 F' n' S')∧NU u (funS2 F' n' S'):=by
  unfold funS2;rw [(M.q 1).kind,(M.q 1).of];cases decide ((Zb n 1).kind=9);have l:=Vsc H (M.q 1) s1;exact ⟨⟨l.vars,l.scope,rfl,l.ee,l.sc,l.sc'⟩,(n1.vs (Yba F' (Zb n' 1) _):NU u (localS F' (Zb n' 1) (funS1 F' n' S')))⟩;exact ⟨s1,n1⟩
 have k2:=M.k 2 O;have c:=((un_t H _ _ k2).sts (by unfold blockB;rw [b1,b2];rfl) _ _ s2.1 s2.2).ee;have ends:endsL (Zb n' 2).kids=endsL (Zb n 2).kids:=by rw [← Jwc,← Jwc,Zmg _ _ k2]
 unfold funR;dsimp only;rw [ends,(M.q 1).kind];cases (decide ((Zb n 1).kind=9) || endsL (Zb n 2).kids);show (failS _ 7 _).ee=(failS _ 7 _).ee;rw [Js,Js,c];exact c
theorem Vfd{b b':Bool}(hb:b'=b){a a' e:Int}(he:S'.ee=S.ee):(failU b' a' e S').ee=(failU b a e S).ee:=by
 subst hb;cases b';show (failS a' e S').ee=(failS a e S).ee;rw [Js,Js,he];exact he
theorem Vtc(H:FlR F F'){k k':Nd}(q:Hq k k')(he:S'.ee=S.ee):(pointerS F' k' S').ee=(pointerS F k S).ee:=by
 unfold pointerS;rw [q.kind,q.text];cases decide (k.kind=8);exact he;exact Vfd (by rw [H.s2]) he
theorem Yle(n:Nd)(i:Nat):dupAt n i=((n.kids.map Nd.text).take i).any fun s=>decide (s=(Zb n i).text):=by
 unfold dupAt;rw [← List.map_take,List.any_map];rfl
theorem Nk.txt{n n':Nd}(N:Nk u n n'):n'.kids.map Nd.text=n.kids.map Nd.text:=by
 refine List.ext_getElem (by rw [Aea,Aea,N.l]) fun i h1 h2=>?_;have hi:i<n.kids.length:=by rwa [Aea] at h2
 have h:=(N.q i).text;rw [Xa hi,Xa (N.l▸hi)] at h;rw [Bea,Bea,h]
theorem Nk.dup{n n':Nd}(N:Nk u n n')(i:Nat):dupAt n' i=dupAt n i:=by rw [Yle,Yle,N.txt,(N.q i).text]
theorem Yff(H:FlR F F'){n n':Nd}(N:Nk u n n')(hp:∀ f∈n.kids,f.kind=3)(he:S'.ee=S.ee):∀ i,i≤n.kids.length→(strA F' n' S' i).ee=(strA F n S i).ee
 | 0,_=>he
 | i+1,hi=>by
  have k:=N.k i O;have hk:(Zb n i).kind=3:=hp _ (by rw [Xa (show i<n.kids.length by omega)];exact Aja _);rw [strA,strA];exact Vtc H ((k.node O).q 0) (Vfd (by rw [N.dup]) (Yff H N hp he i O))
theorem Qxd(H:FlR F F'){n n':Nd}(N:InR u n n')(hk:n.kind=2∨n.kind=6∨n.kind=4)(hp:permF n=true)(he:S'.ee=S.ee):(dclR F' n' S').2.ee=(dclR F n S).2.ee:=by
 have M:=N.node O;unfold dclR;rw [M.h.kind];cases h2:decide (n.kind=2);case true=>rw [M.l];exact Yff H M (fun f hf=>(Xsa (.inl (Yeg h2)) hp f hf).1) he _ (Aba _)
 cases h6:decide (n.kind=6);case true=>exact Vtc H (M.q 0) he
 cases h4:decide (n.kind=4);case true=>exact Zng H N (Yeg h4) hp he
 exact he
theorem Ygd(H:FlR F F')(he:S'.ee=S.ee)(h4:decide ((findD F' 4 [109,97,105,110]).2<0)=decide ((findD F 4 [109,97,105,110]).2<0)):(mainS F' S').ee=(mainS F S).ee:=by
 have e:=congrArg List.length (H.p4 [109,97,105,110]);rw [Aea,Aea] at e;unfold mainS;rw [h4,e,H.k4];cases decide ((findD F 4 [109,97,105,110]).2<0);cases (decide (0<((Zb (findD F 4 [109,97,105,110]).1 0).kids.length:Int)) || !decide ((Zb (findD F 4 [109,97,105,110]).1 1).kind=9));exact he;show (failS _ 7 _).ee=(failS _ 7 _).ee;rw [Js,Js,he];show (failS _ 5 _).ee=(failS _ 5 _).ee;rw [Js,Js,he]
/-! what is found in files that differ by unused variables -/
theorem Nk.at{n n':Nd}(N:Nk u n n'):∀ i (h:i<n.kids.length) (h':i<n'.kids.length),InR u n.kids[i] n'.kids[i]:=fun i h h'=>by
 have:=N.k i h;rwa [Xa h,Xa h'] at this
theorem Ygf{F:Nd}(hv:validB F=true):(refCheck F).2.2=(refS F).ee:=by
 by_cases h:(refS F).ee=0;unfold refCheck;rw [hv,Yag h,h];rfl;unfold refCheck;rw [hv,Zzg h];rfl
theorem Zog{F:Nd}(hv:validB F=false):refCheck F=(nd0,0,1):=by
 unfold refCheck;rw [hv];rfl
end
def noU:List UInt8→Bool:=fun _=>false
theorem Yhd:∀ t,InR noU t t:=by
 refine Nd.ind fun t ih=>.nd (Hq.refl t) J J fun i hi=>?_;rw [Xa hi];exact ih _ (Aja hi)
theorem Qzb(F:Nd):FlR F F:=⟨fun _=>rfl,fun _=>rfl,fun _=>rfl,fun _=>rfl,fun _=>rfl,fun _=>rfl,fun _=>rfl,fun _=>rfl⟩
def Dst(l:List Nd):Prop:=(l.map Nd.text).Nodup
theorem Yid:∀ {l:List Nd},Dst l→∀ {a b:Nd},a∈l→b∈l→a.text=b.text→a=b
 | d::l,h,a,b,ha,hb,e=>by
  unfold Dst at h;rw [Baa,List.nodup_cons] at h;rcases Ala.1 ha with ha|ha <;> rcases Ala.1 hb with hb|hb
  rw [ha,hb];exact absurd (List.mem_map.2 ⟨b,hb,by rw [← e,ha]⟩) h.1;exact absurd (List.mem_map.2 ⟨a,ha,by rw [e,hb]⟩) h.1;exact Yid h.2 ha hb e
theorem Yjd{kd:Int}{s:List UInt8}:∀ {l:List Nd} {k:Nat},(∀ d∈l,¬ (d.kind=kd∧d.text=s))→findK kd s l k=(nd0,-1)
 | [],_,_=>rfl
 | d::l,k,h=>by
  have ih:=fun k=>Yjd (kd:=kd) (s:=s) (l:=l) (k:=k) fun e he=>h e (Awa _ he);have h0:=h d Aka;rw [findK];cases h1:decide (d.kind=kd);exact ih k;cases h2:decide (d.text=s);exact ih (k+1);exact absurd ⟨Yeg h1,Yeg h2⟩ h0
theorem Ykd{kd:Int}{s:List UInt8}{d:Nd}:∀ {l:List Nd} {k:Nat},Dst l→d∈l→d.kind=kd→d.text=s→(findK kd s l k).1=d∧0≤(findK kd s l k).2
 | e::l,k,hn,hd,h1,h2=>by
  have hn':Dst l:=by unfold Dst at hn ⊢;rw [Baa,List.nodup_cons] at hn;exact hn.2
  rw [findK];by_cases he:e.kind=kd∧e.text=s;rw [Yag he.1,Yag he.2];have:=Yid hn hd Aka (h2.trans he.2.symm);exact ⟨this.symm,by show (0:Int)≤(k:Int);omega⟩
  have hm:d∈l:=by
   rcases Ala.1 hd with q|q;exact absurd ⟨q▸h1,q▸h2⟩ he;exact q
  have ih:=fun k=>Ykd (kd:=kd) (s:=s) (l:=l) (k:=k) hn' hm h1 h2;cases q1:decide (e.kind=kd);exact ih k;cases q2:decide (e.text=s);exact ih (k+1);exact absurd ⟨Yeg q1,Yeg q2⟩ he
structure Prm (F F':Nd):Prop where
  kind:F'.kind=F.kind
  text:F'.text=F.text
  p:F'.kids.Perm F.kids
theorem Prm.symm{F F':Nd}(h:Prm F F'):Prm F' F:=⟨h.kind.symm,h.text.symm,h.p.symm⟩
theorem Prm.dst{F F':Nd}(h:Prm F F')(hn:Dst F.kids):Dst F'.kids:=((h.p.map Nd.text).nodup_iff).2 hn
theorem Wga{F F':Nd}(h:Prm F F')(hn:Dst F.kids)(kd:Int)(s:List UInt8):(findD F' kd s).1=(findD F kd s).1∧(decide ((findD F' kd s).2<0)=decide ((findD F kd s).2<0))∧(decide (0≤(findD F' kd s).2)=decide (0≤(findD F kd s).2)):=by
 unfold findD;by_cases hd:∃ d∈F.kids,d.kind=kd∧d.text=s;obtain ⟨d,hm,h1,h2⟩:=hd;have a:=Ykd (k:=0) hn hm h1 h2;have b:=Ykd (k:=0) (h.dst hn) (h.p.mem_iff.2 hm) h1 h2;refine ⟨b.1.trans a.1.symm,?_,?_⟩;rw [Zzg O,Zzg O];rw [Yag b.2,Yag a.2];have a:findK kd s F.kids 0=(nd0,-1):=Yjd fun d hm hq=>hd ⟨d,hm,hq⟩;have b:findK kd s F'.kids 0=(nd0,-1):=Yjd fun d hm hq=>hd ⟨d,h.p.mem_iff.1 hm,hq⟩;rw [a,b];exact ⟨rfl,rfl,rfl⟩
theorem Yhf{F F':Nd}(h:Prm F F')(hn:Dst F.kids)(s:List UInt8):F'.kids.find? (isStr s)=F.kids.find? (isStr s):=by
 cases e:F.kids.find? (isStr s) with
 | none =>
  rw [Bka] at e ⊢;exact fun x hx=>e x (h.p.mem_iff.1 hx)
 | some d =>
  have hm:=Aza e;have hd:=Bja e
  cases e':F'.kids.find? (isStr s) with
  | none =>
   rw [Bka] at e';exact absurd hd (e' d (h.p.mem_iff.2 hm))
  | some d' =>
   have hm':=Aza e';have hd':=Bja e';have tx:∀ {x:Nd},isStr s x=true→x.text=s:=fun {x} q=>by unfold isStr at q;simp at q;exact q.2
   rw [Yid hn (h.p.mem_iff.1 hm') hm ((tx hd').trans (tx hd).symm)]
theorem Ubf{F F':Nd}(h:Prm F F')(hn:Dst F.kids):FlR F F':=by
 refine ⟨fun s=>(Wga h hn 2 s).2.1,fun s=>(Wga h hn 6 s).2.2,fun s=>?_,fun s=>(Wga h hn 4 s).2.2,fun s=>?_,fun s=>?_,fun s=>?_,fun s=>?_⟩;rw [(Wga h hn 6 s).1];rw [(Wga h hn 4 s).1];rw [(Wga h hn 4 s).1];rw [(Wga h hn 4 s).1];unfold Uh;rw [Yhf h hn]
theorem dup_dst{F:Nd}:(∀ i,i<F.kids.length→dupAt F i=false)↔Dst F.kids:=by
 have e:∀ i (hi:i<F.kids.length),dupAt F i=false↔∀ j (hj:j<F.kids.length),j<i→F.kids[j].text≠F.kids[i].text:=fun i hi=>by
  unfold dupAt;rw [Bda,Xa hi];constructor;intro h j hj hji he;exact h _ (Bsa.2 ⟨j,O,rfl⟩) (by simpa using he);intro h x hx;obtain ⟨j,hj,rfl⟩:=Bsa.1 hx;have:=h j O O;simpa using this
 unfold Dst List.Nodup;rw [List.pairwise_map,List.pairwise_iff_getElem];constructor;intro h i j hi hj hij;exact (e j hj).1 (h j hj) i hi hij;intro h i hi;exact (e i hi).2 fun j hj hji=>h j i hj hi hji
theorem Qaf{F:Nd}{S:CSt}:∀ {i:Nat},(namA F S i).ee=0→S.ee=0∧∀ j,j<i→dupAt F j=false
 | 0,h=>⟨h,fun j hj=>absurd hj (Nat.not_lt_zero j)⟩
 | i+1,h=>by
  obtain ⟨h1,h2⟩:=fu (b:=!dupAt F i) h;obtain ⟨h3,h4⟩:=Qaf h2;refine ⟨h3,fun j hj=>?_⟩;by_cases q:j=i;rw [q];simpa using h1;exact h4 j O
theorem Yif{F:Nd}{S:CSt}:∀ {i:Nat},(∀ j,j<i→dupAt F j=false)→namA F S i=S
 | 0,_=>rfl
 | i+1,h=>by
  show failU (!dupAt F i) _ 6 (namA F S i)=S;rw [h i O,Yif fun j hj=>h j O];rfl
structure Acc (F:Nd):Prop where
  dst:Dst F.kids
  dcl:∀ d∈F.kids,(dclR F d rs0).2.ee=0
  mn:(mainS F rs0).ee=0
theorem Zpg{F:Nd}(hv:validB F=true)(h:(refS F).ee=0):Acc F:=by
 unfold refS at h;have h1:=(Wkf F _).z h
 have dz:∀ i,i≤F.kids.length→(dclA F (namA F rs0 F.kids.length) i).2.ee=0:=fun i hi=>by
  have q:=Jvd F (namA F rs0 F.kids.length) i (F.kids.length-i);rw [show i+(F.kids.length-i)=F.kids.length by omega] at q;exact q.z h1
 have h0:=Qaf (dz 0 (Bla _));refine ⟨dup_dst.1 h0.2,fun d hd=>?_,?_⟩;obtain ⟨i,hi,rfl⟩:=List.getElem_of_mem hd;have q:=dz (i+1) hi;have hh:=Zrc hv _ (Aja hi);rw [Qxd (Qzb F) (Yhd _) hh.1 hh.2.2 (S:=(dclA F (namA F rs0 F.kids.length) i).2) (S':=rs0) (dz i O).symm];rw [← Xa hi];exact q;rw [Ygd (Qzb F) (S':=rs0) (S:=(dclA F (namA F rs0 F.kids.length) F.kids.length).2) h1.symm rfl];exact h
theorem Zqg{F:Nd}(hv:validB F=true)(h:Acc F):(refS F).ee=0:=by
 unfold refS;rw [Yif (dup_dst.2 h.dst)]
 have dz:∀ i,i≤F.kids.length→(dclA F rs0 i).2.ee=0:=by
  intro i
  induction i with
  | zero=>intro _;rfl
  | succ i ih =>
   intro hi;have hm:Zb F i∈F.kids:=by rw [Xa hi];exact Aja hi
   have hh:=Zrc hv _ hm;show (dclR F (Zb F i) (dclA F rs0 i).2).2.ee=0;rw [Qxd (Qzb F) (Yhd _) hh.1 hh.2.2 (S:=rs0) (S':=(dclA F rs0 i).2) (ih O)];exact h.dcl _ hm
 rw [Ygd (Qzb F) (S:=rs0) (S':=(dclA F rs0 F.kids.length).2) (dz _ (Aba _)) rfl];exact h.mn
theorem Ucf{F F':Nd}(hv:validB F=true)(h:Prm F F')(a:Acc F):Acc F':=by
 have H:=Ubf h a.dst;refine ⟨h.dst a.dst,fun d hd=>?_,?_⟩;have hm:=h.p.mem_iff.1 hd;have hh:=Zrc hv _ hm;rw [Qxd H (Yhd d) hh.1 hh.2.2 (S:=rs0) (S':=rs0) rfl];exact a.dcl d hm;rw [Ygd H (S:=rs0) (S':=rs0) rfl (Wga h a.dst 4 [109,97,105,110]).2.1];exact a.mn
theorem Wte{F F':Nd}(h:Prm F F')(hv:validB F=true):validB F'=true:=by
 obtain ⟨h1,hp⟩:=Vqc hv;unfold validB permB at hv ⊢;rw [Afa,Afa,Ycg,Ycg] at hv ⊢;refine ⟨h.kind.trans h1,?_,?_⟩;rw [Qc] at hp ⊢;rw [Afa] at hp ⊢;refine ⟨?_,Aca.2 fun k hk=>Aca.1 hp.2 k (h.p.mem_iff.1 hk)⟩;have hl:=hp.1;unfold locB at hl ⊢;rw [Afa] at hl ⊢;refine ⟨?_,?_⟩;have:=hl.1;unfold textB' at this ⊢;rw [h.kind,h.text];exact this;have:=hl.2;unfold formB at this ⊢;rw [h.kind];rw [Yag h1] at this ⊢;rw [Yhg,Afa] at this ⊢;refine ⟨?_,?_⟩;have:=this.1;rw [Bool.not_eq_true',Bda] at this ⊢;exact fun x hx=>this x (h.p.mem_iff.1 hx);have:=this.2;unfold everyB at this ⊢;rw [Aca] at this ⊢;exact fun x hx=>this x (h.p.mem_iff.1 hx);have:=hv.2.2;rw [Uoc] at this ⊢;exact ⟨this.1,fun k hk=>this.2 k (h.p.mem_iff.1 hk)⟩
theorem Yjf{F F':Nd}(h:Prm F F')(h0:(refCheck F).2.2=0):(refCheck F').2.2=0:=by
 cases hv:validB F;rw [Zog hv] at h0;exact absurd h0 (show ¬ (1:Int)=0 by decide);have hv':=Wte h hv;rw [Ygf hv] at h0;rw [Ygf hv'];exact Zqg hv' (Ucf hv h (Zpg hv h0))
theorem Ztc{F F':Nd}(h:Prm F F'):decide ((refCheck F).2.2=0)=decide ((refCheck F').2.2=0):=by
 rw [decide_eq_decide];exact ⟨Yjf h,Yjf h.symm⟩
section
variable {P:Da} {Z:List Ba→Act→Aa→Prop} {ops:List Oper} {cl:List Nat} {lv:List Bool} {W0:Aa} {n:Nat} {K:Act→Aa→Prop} {k:Nat} {rest:List Oper} {σ:List Ent} {w:Aa} {d:Nat} {ty:TypeId} {pos:String} {after:Array Edge}
theorem Ymd{op:Op}{v:Ea}(hb:(!Ada (clOf cl k) 0 && !Ada (clOf cl k) 3&&Aaa d n)=true)(hr:Rd P n σ True w op ty v)(h:SR P Z ops cl lv W0 n K (k+1) rest ((d,True,v) :: σ) w) :
  SR P Z ops cl lv W0 n K k (⟨some d,op,ty,pos,after,none⟩::rest) σ w :=
 Jfb hb (w':=w) (fun d pos after g a ha hc=>hr d pos after g a ha hc w (G.refl w)) (fun _=>G.refl w) h
end
theorem u8_c{z:Int}(h:(Lit.int .u8 z).wf=true):0≤z∧z≤255:=by
 simp only [Lit.wf,Afa,Ycg] at h;exact h
theorem Vgd{w w':Aa}{D D':Nat→Prop}{t:Nd}{v:Ea}(hD:∀ b,D b→b<w.heap.size→D' b)(hf:∀ b,D b→b<w.heap.size→w'.heap[b]? = w.heap[b]?)(ht:Kd w' D' t.kids v):∀ {ks:List Nd} {xs:List Ea} (_:KRow w D ks xs) {i:Nat} (_:i<ks.length),KRow w' D' (ks.set i t) (xs.take (i*9)++ndCells t v++xs.drop (i*9+9))
 | s::ks,xs,h,0,_=>by
  obtain ⟨u,r,rfl,h1,h2⟩:=h;have e:(ndCells s u).length=9:=Jb _ _;show KRow w' D' (t::ks) _;rw [Nat.zero_mul,List.take_zero,Bma,Apa,List.drop_append,Bta O,e,Nat.sub_self,List.drop_zero,Bma];exact Ut ht (Uu hD hf _ _ h2)
 | s::ks,xs,h,i+1,hi=>by
  obtain ⟨u,r,rfl,h1,h2⟩:=h;have e:(ndCells s u).length=9:=Jb _ _;have k:=Vgd hD hf ht h2 (i:=i) (by simpa using hi);show KRow w' D' (s::ks.set i t) _;have h1':Kd w' D' s.kids u:=by rw [Jvb] at h1;exact Wj h1 hD hf
  rw [List.take_append,Bua O,e,show (i+1)*9-9=i*9 by omega,List.drop_append,Bta O,e,show (i+1)*9+9-9=i*9+9 by omega,Bma,Bna,Bna,← Bna (r.take _)];exact Ut h1' k
theorem Ykf{w:Aa}{b:Nat}{e:TypeId}{l l':List Ea}(h:Blk w b e l)(h':Blk w b e l'):l=l':=by
 have q:=h.symm.trans h';injection q with q;injection q with q;simpa using q
theorem OwnK.seti{e:TypeId}{D:Nat→Prop}{base:Nat}{w:Aa}{ks:List Nd}{s:Ea}(h:OwnK e D base w ks s){i:Nat}(hi:i<ks.length):∃ g c l,s = .slice (some ⟨g,0,none⟩) ks.length c∧Blk w g e l∧i*9+9≤l.length∧D g∧base≤g∧
 (∃ v,(l.drop (i*9)).take 9=ndCells ks[i] v∧Kd w (fun k=>D k∧k≠g) ks[i].kids v)∧
 ∀ {w':Aa} {t:Nd} {v:Ea} {D':Nat→Prop},w.grownBy w' (some g)→Blk w' g e (l.take (i*9)++ndCells t v++l.drop (i*9+(ndCells t v).length))→(∀ b,D b→D' b)→Kd w' (fun k=>D' k∧k≠g) t.kids v→OwnK e D' base w' (ks.set i t) (.slice (some ⟨g,0,none⟩) (ks.set i t).length c):=by
 obtain ⟨xs,ho,hX,hD⟩:=h;obtain ⟨g,c,l,rfl,hge,hB,hmc,hlen,htk,hre⟩:=Wfb ho O;have hg:=hD g rfl;have hfit:i*9+9≤l.length:=by rw [hlen];have:=Nat.mul_le_mul_right 9 hmc;omega
 have hX1:KRow w (fun k=>D k∧k≠g) ks xs:=hX.mono fun k hk _=>⟨hk.1,fun he=>hk.2 (by rw [he];rfl)⟩;obtain ⟨u,hu,hku⟩:=Xwc hX1 hi;refine ⟨g,c,l,rfl,hB,hfit,hg,hge,⟨u,?_,hku⟩,fun {w' t v D'} hw hB' hDD hK=>?_⟩;rw [← hu,← htk,List.drop_take,List.take_take];congr 1;omega;have e9:(ndCells t v).length=9:=Jb _ _;rw [e9] at hB'
 have e0:(l.take (i*9)++ndCells t v++l.drop (i*9+9)).length=c*9:=by
  rw [Bfa,Bfa,Ata,List.length_drop,e9];omega
 have ho':=hre w' _ hB' e0
 have et:(l.take (i*9)++ndCells t v++l.drop (i*9+9)).take (ks.length*9)=xs.take (i*9)++ndCells t v++xs.drop (i*9+9):=by
  rw [← htk,List.take_append,Bfa,Ata,e9,Bua (by rw [Bfa,Ata,e9];omega),List.take_take,List.drop_take,show min (i*9) l.length=i*9 by omega,show min (i*9) (ks.length*9)=i*9 by omega]
 rw [et] at ho';refine ⟨_,by rw [Aua];exact ho',?_,fun b hb=>by injection hb with hb;exact hb▸hDD g hg⟩;exact Vgd (D:=fun k=>D k∧k≠g) (fun b hb hlt=>⟨hDD b hb.1,fun he=>hb.2 (by injection he)⟩) (fun b hb hlt=>hw.block b hlt fun he=>hb.2 (by injection he)) (hK.mono fun k hk _=>⟨hk.1,fun he=>hk.2 (by injection he)⟩) hX1 hi
theorem Wue(t:Nd)(v:Ea)(D:Nat→Prop)(w:Aa)(hk:Kd w D t.kids v)(hc:count t≤1000000):Ret PP 12 #[ndV t v] w fun r w'=>(∃ s,r=ndV t s∧OwnK 26 (fun b=>w.heap.size≤b) w.heap.size w' t.kids s)∧G w w':=by
 obtain ⟨p,c,rfl,hcap,hks⟩:=hk;have hlen:=Wh t;have g:=G.refl w;refine Vw (m:=25) Tryz.func12 J J [(0,True,_)] (Za J (Zr _)) ?_;refine Zl (Zp (Jw J (Zc J) J ?_));intro b1 w1 N1;have l1:=N1.ge g;have g:=g.trans (N1.g);try have hO:=hO.grow (N1.g)
 have E:=(Qh _).new N1;refine Yr J Zn J ?_;intro b2 w2 N2;have l2:=N2.ge g;have g:=g.trans (N2.g);try have hO:=hO.grow (N2.g)
 replace E:=E.new N2;refine Ze (kq (Zl (Zp (Xb Zg J (Xn Zh J (E.g1.at_ J) (Xe J (Ze (kq (Zl (Zp (Xb Zg J (Xl J Wi (Zc J) Xu J E.g1 J J ?_))))))))))));intro wS1 hgS1 hzS1 BS;replace E:=E.s1 hgS1 BS;have g:=Yja g hgS1 (by intro k hk;injection hk with hk;omega);refine Ze (kq (Zl (Zl (Zp (Xe J (Ze (kq (Yz (?_)))))))));have hnd1:=E.1;refine Uo (fun (i:Nat) u1=>(i≤t.kids.length∧∃ s,Blk u1 b1 26 (ndCells t s)∧OwnK 26 (Dx w.heap.size [b1,b2]) w.heap.size u1 (t.kids.take i) s)∧G w u1) _ [(1,True,_),(2,True,_),(3,True,_)] (fun (i:Nat)=>[(4,True,.int .i64 i)]) (fun (i:Nat)=>t.kids.length-i) (0) ⟨⟨Bla _,_,E.g1,Wac _ _ _ _⟩,g⟩ (Zy (blkE E.g0) (Xw _)) (Za J (Za J (Za J (Za J (Zr _))))) ?_;clear E;rintro i u1 ⟨hI1,gl1⟩ ⟨B2,_⟩;replace B2:Blk _ _ _ _:=B2;have g:=gl1;obtain ⟨hi,s,B1,hO⟩:=hI1;obtain ⟨sa,sc,rfl⟩:=hO.slice;have E:=Vea (L:=[(b2,_,_),(b1,_,_)]) hnd1 ⟨B2,B1,trivial⟩ rfl;refine Zl (Zl (Zp (Zw J (Zw J (Yb J (fun _=>Wha Zd (Zc J)) (Zxb J J (Ze (kq (Um J (fun h1=>?_) (fun h1=>?_))))))))));replace h1:i<t.kids.length:=by simp only [Ycg] at h1;omega
 obtain ⟨b,o,rfl,hD,xs,hR,hX⟩:=hks O;obtain ⟨p',c',hcell,hkid⟩:=Zub hR hX h1;have hck:=Jv h1;have hkl:=Wh t.kids[i];have hu:=g.size;refine Yw (kq (Zl (Yz (Xd [3,0,3,3,3,0,1,1,2,3,2] [true,true,true,true,true,true,true,true,true,true,true] [0,1,0,0,12,28,60,124,255,511,1023] mix KR ?_))));have g:=g.trans (G.drew _);replace E:=E.grow (G.drew _);try have hO:=hO.grow (G.drew _)
 have hB1lt:=E.g1.lt;have hB2lt:=E.g0.lt;have hOlt:=hO.lt;refine Xb Zg J (Xn Zh J (E.g1.at_ J) (Zw J (Zw J (Yb J (fun _=>Uma Zd (Zc J) (Zc J) (fun _=>O)) (Wy Zf J J (hcell.grow g) (Xc J (Zx Ynb Vb (aqc J aq0) J) (Uge _ _ _ _ (hkid.grow g) O O) ?_))))));rintro v20 w20 ⟨⟨p2,c2,rfl,hk2⟩,g20⟩;refine ⟨fun _=>g20,?_⟩;have g:=g.trans g20;replace E:=E.grow (g20);try have hO:=hO.grow (g20)
 refine Zz [_,_,_,_,_,_,_,_,_] J Zd Zn (Vn (Zc J) (Vv)) J J ?_;intro b21 w21 N21;have l21:=N21.ge g;have g:=g.trans (N21.g);try have hO:=hO.grow (N21.g)
 replace E:=E.new N21;have hk2:=hk2.grow N21.g;have hOo:=hO;refine Ubb J Zd Zn J (Zc J) hO (Zc J) J E.g0.row (Wo (hk2.mono fun k hk _=>⟨⟨by have:u1.heap.size≤k:=hk;omega,by have:u1.heap.size≤k:=hk;have:=hB1lt;have:=hB2lt;simp;omega⟩,fun he=>by have:=hOlt k he.symm;have:u1.heap.size≤k:=hk;omega⟩)) (by simp;omega) (by have:=g.size;omega) ⟨by have:=g.size;omega,by have q1:=E.g2.lt;have q2:=E.g1.lt;simp;omega⟩ ?_;intro a22 c22 w22 hO hg22;replace E:=E.sel [false,true,true];replace E:=E.keep hg22 (Bva.2 ⟨(hOo.ne (by simp [Dx])),Bva.2 ⟨(hOo.ne (by simp [Dx])),List.forall_mem_nil _⟩⟩);have g:=Yja g hg22 (fun k hk=>hOo.ge k hk);refine Xb Zg J (Xl J Wi (Zc J) (Zc J) J E.g1 J J ?_);intro wS2 hgS2 hzS2 BS;replace E:=E.s1 hgS2 BS;have g:=Yja g hgS2 (by intro k hk;injection hk with hk;omega);have hO:=hO.keep hgS2 (by simp [Dx]);refine Ze (kq (Zp (Zw J (Yb J (fun _=>Xbc (Zc J) Xu (fun _=>O)) (Xe J (Ve [(4,_,_),(1,_,_),(2,_,_),(3,_,_)] (Za J (Za J (Za J (Za J (Zr _))))) (Ze (fun a ha=>?_))))))));exact ⟨i+1,ha,⟨⟨h1,_,E.g1,by rw [Jqa h1];exact hO⟩,g⟩,(Zy (blkE E.g0) (Xw _)),O⟩;replace h1:i=t.kids.length:=by simp only [Ydg] at h1;omega
 subst h1;rw [List.take_length] at hO E;refine Xta J (kq (Zl (Zp (Wy Zf J J E.g1.row (Xk J Yf (Zc J) (Zc J) J J E.g0 J J ?_)))));intro wS3 hgS3 hzS3 BS;replace E:=E.s0 hgS3 BS;have g:=Yja g hgS3 (by intro k hk;injection hk with hk;omega);have hO:=hO.keep hgS3 (by simp [Dx]);refine Ze (kq (Wb (Yda J (Zra J Zf J (E.g0.row) (Vo)) ?_)));exact ⟨⟨_,rfl,hO.mono fun b hb=>hb.1⟩,g⟩
def swpL(l:List Nd)(a b:Nat):List Nd:=(l.set a (l.getD b nd0)).set b (l.getD a nd0)
theorem Vhd{l:List Nd}{a b:Nat}(ha:a<l.length)(hb:b<l.length):(swpL l a b).Perm l:=by
 unfold swpL;rw [Ama,Ama,Ana ha,Ana hb];exact List.set_set_perm ha hb
def swpT(t:Nd)(a b:Nat):Nd:=.mk t.kind t.text t.num t.pos (swpL t.kids a b) t.ty t.ref t.up
theorem Ynd{t:Nd}{a b:Nat}(ha:a<t.kids.length)(hb:b<t.kids.length):Prm t (swpT t a b):=⟨rfl,rfl,Vhd ha hb⟩
theorem Qpc{t:Nd}{a b:Nat}(ha:a<t.kids.length)(hb:b<t.kids.length):count (swpT t a b)=count t:=by
 rw [Jc,Jc t];have:=((Vhd ha hb).map count).sum_nat;show 1+((swpL t.kids a b).map count).sum=_;rw [this]
theorem Yme(l:List Nd)(a b:Nat):(swpL l a b).length=l.length:=by unfold swpL;rw [Aua,Aua]
theorem Qyd(t:Nd)(x y:Int)(v:Ea)(D:Nat→Prop)(w:Aa)(hx:0≤x∧x≤255)(hy:0≤y∧y≤255)(hL:LaidW w.heap.size w)(hkD:Kd w D t.kids v)(hct:count t≤1048576):Ret PP 9 #[ndV t v,.int .u8 x,.int .u8 y] w fun r w'=>r = .bool true∧G w w':=by
 obtain ⟨n0,hn0⟩:∃ n,n=w.heap.size:=⟨_,rfl⟩;have hk:Kd w (fun k=>k<n0) t.kids v:=Kd.mono hkD fun k _ h=>by rw [hn0];exact h
 obtain ⟨p,c,rfl,_⟩:=id hk;have hln:=Wh t;have g:=G.refl w;refine Vw (m:=76) Tryz.func9 J J [(0,True,_),(1,True,_),(2,True,_)] (Za J (Za J (Za J (Zr _)))) ?_;refine Zl (Zp (Jw J (Zc J) J ?_));intro b3 w3 N3;have l3:=N3.ge g;have nat3:=N3.at_;have nsz3:=N3.size;try have hO:=hO.grow N3.g
 have g:=g.trans (N3.g);try have hk:=hk.grow (N3.g)
 try have hO:=hO.grow (N3.g)
 try have kqq:=kqq.grow (N3.g)
 have E:=(Qh _).new N3;refine Xe J (Ze (kq (Zl (Zl (Zp (Xc J (Zx Qwc Vb (aq0) J) (Woe _ ((hL.grow g).top)) ?_))))));rintro v16 w16 ⟨rfl,g16⟩;refine ⟨fun _=>g16,?_⟩;have g:=g.trans (g16);replace E:=E.grow (g16);try have hk:=hk.grow (g16)
 try have hO:=hO.grow (g16)
 try have kqq:=kqq.grow (g16)
 refine Qff J (Ze (kq (Um J (fun h1=>?_) (fun h1=>?_))))
 ·exact absurd h1 Od
  done
 (try simp only [bsimp] at h1);refine Yw (kq (Zl (Zl (Zp (Wy Zf J J E.g0.row (Xc J (Zx Upb Vb (aqc J aq0) J) (Xje t _ _ _ hk O) ?_))))));rintro v19 w19 ⟨rfl,g19⟩;refine ⟨fun _=>g19,?_⟩;have g:=g.trans (g19);replace E:=E.grow (g19);try have hk:=hk.grow (g19)
 try have hO:=hO.grow (g19)
 try have kqq:=kqq.grow (g19)
 refine Ytf J J (Zw J (Zv J J J (fun _=>Zi Zg (Zc J)) (We J J J (Zt Zh (Yg J id) (fun _=>E.g0.at_ J)) (Zv J J J (fun _=>Wha Zd (Yg J id)) (Zv J J J (fun _=>Qja (Yg J id) Xu) (Yb J (fun _=>Xv (Zc J) (Yg J id)) (Ze (kq (Um J (fun h2=>?_) (fun h2=>?_))))))))))
 ·(try simp only [bsimp] at h2)
  refine Zl (Zp (Xe J (Ze (kq (Wb (Vx J J ?_))))));exact ⟨by first|rfl|exact Ybg (by rw [Ztc (Ynd hA1 hB1)];simp),g⟩
 have h2a:count t≤200:=by have:=Yfg (Bwa.1 h2).1;omega
 have gz19:=g.size;have q3:=E.ltm (X:=[b3]) Os b3 Os;have h2b:0<t.kids.length:=by have:=Yfg (Bwa.1 h2).2;omega
 refine Yw (kq (Zl (Zp (Wy Zf J J E.g0.row (Xc J (Zx Ynb Vb (aqc J aq0) J) (Wue t _ _ _ hk O) ?_)))));rintro v28 w28 ⟨⟨s28,rfl,hO⟩,g28⟩;refine ⟨fun _=>g28,?_⟩;have g:=g.trans (g28);replace E:=E.grow (g28);try have hk:=hk.grow (g28)
 try have hO:=hO.grow (g28)
 try have kqq:=kqq.grow (g28)
 obtain ⟨a28,c28,rfl⟩:=hO.slice;obtain ⟨lo,hlo⟩:∃ lo,lo=w28.heap.size:=⟨_,rfl⟩;have hO:=hO.low.mono (D':=fun k=>k<lo) fun k hk=>by rw [hlo];exact hk.2
 refine Yr J Zn J ?_;intro b7 w7 N7;have l7:=N7.ge g;have nat7:=N7.at_;have nsz7:=N7.size;try have hO:=hO.grow N7.g
 have g:=g.trans (N7.g);try have hk:=hk.grow (N7.g)
 try have hO:=hO.grow (N7.g)
 try have kqq:=kqq.grow (N7.g)
 replace E:=E.new N7;refine Xk J Yf (Zc J) (Zc J) J J E.g0 J J ?_;intro wS1 hgS1 hzS1 BS;replace E:=E.s0 hgS1 BS;have g:=Yja g hgS1 (by intro k hk;injection hk with hk;omega);try have hk:=hk.keep hgS1 (fun k hk _ e=>by injection e with e;omega)
 try have hO:=hO.keep hgS1 O
 try have kqq:=kqq.keep hgS1 (fun k hk _ e=>by injection e with e;have hk:k<w58.heap.size:=hk;omega)
 refine Ze (kq (Zl (Xd [3,3,3,0,3,3,3,3,3,0,3,3,3,3] [true,true,true,true,true,true,true,true,true,true,true,true,true,true] [0,1,0,4,12,31,0,64,0,256,768,1984,63,8191] mix KR ?_)));have g:=g.trans (G.drew _);replace E:=E.grow (G.drew _);try have hk:=hk.grow (G.drew _)
 try have hO:=hO.grow (G.drew _)
 try have kqq:=kqq.grow (G.drew _)
 refine Zw J (Yb J (fun _=>Yrd (r:=x) Ysd Vme (Zc J) (fun hc=>(Xac ⟨O,O⟩))) (Xb Zg J (Xn Zh J (E.g0.at_ J) (Yb J (fun _=>Wha Zd (Zc J)) (Yb J (fun _=>Jcd (Zc J) (Zc J) (fun _=>O)) (Zw J (Yb J (fun _=>Yrd (r:=y) Ysd Vme (Zc J) (fun hc=>(Xac ⟨O,O⟩))) (Xb Zg J (Xn Zh J (E.g0.at_ J) (Yb J (fun _=>Wha Zd (Zc J)) (Yb J (fun _=>Jcd (Zc J) (Zc J) (fun _=>O)) (Xe J (Xe J (Ze (kq (Zl (?_)))))))))))))))));generalize hA:x.tmod (t.kids.length:Int)=xa;generalize hB:y.tmod (t.kids.length:Int)=xb;have hxa:0≤xa∧xa<t.kids.length:=by rw [← hA];exact ⟨Int.tmod_nonneg _ hx.1,Bxa x O⟩
 have hxb:0≤xb∧xb<t.kids.length:=by rw [← hB];exact ⟨Int.tmod_nonneg _ hy.1,Bxa y O⟩
 obtain ⟨A,rfl⟩:∃ A:Nat,xa=A:=⟨xa.toNat,O⟩;obtain ⟨B,rfl⟩:∃ B:Nat,xb=B:=⟨xb.toNat,O⟩;have hA1:A<t.kids.length:=by omega
 have hB1:B<t.kids.length:=by omega
 obtain ⟨gg,cc,_,es,_,_,_,hge,_⟩:=hO.seti hB1;injection es with e1 _ e3;subst e1 e3;have hgl:=hO.lt gg rfl;refine Yu (rowR (some gg)) [3,0,3,3,0,3,3,0,3,3,1,3,0,3,3,1,3,1,3,2] [0,1,0,0,8,0,0,64,0,448,960,0,2048,0,14336,30720,65479,131015,262143,524287] mix KR [0,1,2,3,4,5,6,7,8,9,10,11,12,13,14,15,16,17,18,19] J ?_;have g:=g.trans (G.drew _);replace E:=E.grow (G.drew _);try have hk:=hk.grow (G.drew _)
 try have hO:=hO.grow (G.drew _)
 try have kqq:=kqq.grow (G.drew _)
 obtain ⟨g0,c0,l,es,hBk,hfit,hDg,_,⟨uB,huB,hkB⟩,_⟩:=hO.seti hB1;injection es with e1 _ e3;injection e1 with e1;injection e1 with e1;subst e1 e3;obtain ⟨g2,c2,l2,es2,hBk2,hfit2,_,_,⟨uA,huA,hkA⟩,hset⟩:=hO.seti hA1;injection es2 with e1 _ e3;injection e1 with e1;injection e1 with e1;subst e1 e3;have hDg:gg<lo:=hDg;have n7:gg≠b7:=by omega
 have n3:gg≠b3:=by omega
 obtain rfl:=Ykf hBk hBk2;obtain ⟨pB,cB,rfl,_⟩:=id hkB;obtain ⟨pA,cA,rfl,_⟩:=id hkA;have hcB:=hBk.row.part (B*9) 9;rw [huB] at hcB;have hcA:=hBk.row.part (A*9) 9;rw [huA] at hcA;refine Zq 0 J J (fun _=>Zi Zg (Zc J)) (Ye 1 J J (fun w1 hx=>Zt Zh (Zc J) (fun _=>(E.g0.keep hx (by intro e;injection e with e;omega)).at_ J)) (Zq 2 J J (fun _=>Zu (Zc J)) (Zq 3 J J (fun _=>Zi Zg (Zc J)) (Ye 4 J J (fun w1 hx=>Zt Zh (Zc J) (fun _=>(E.g0.keep hx (by intro e;injection e with e;omega)).at_ J)) (Zq 5 J J (fun _=>Zu (Zc J)) (Zq 6 J J (fun _=>Zi Zg (Zc J)) (Ye 7 J J (fun w1 hx=>Zt Zh (Zc J) (fun _=>(E.g0.keep hx (by intro e;injection e with e;omega)).at_ J)) (Zq 8 J J (fun _=>Zu (Zc J)) (Zq 9 J J (fun _=>Xp Zd (Zc J) (Zc J) (fun _=>O) (fun _=>J)) (Zq 11 J J (fun _=>Zi Zg (Zc J)) (Ye 12 J J (fun w1 hx=>Zt Zh (Zc J) (fun _=>(E.g0.keep hx (by intro e;injection e with e;omega)).at_ J)) (Zq 13 J J (fun _=>Zu (Zc J)) (Zq 14 J J (fun _=>Xp Zd (Zc J) (Zc J) (fun _=>O) (fun _=>J)) (Qma 10 15 J J ?_ ?_))))))))))))))
 ·refine Zk (L':=[15,16,17,18,19]) [3,0,3,3,0,3,3,0,3,3,1,3,0,3,3,1,3,2,3,2] rfl rfl rfl ?_
  refine Ymd J (Zo Zf (Zc J) J (fun _=>hcB)) ?_;refine Zs ((G.refl _).only _) ?_;refine Zm 15 J J ?_;refine Zk (L':=[16,17,18,19]) [3,0,3,3,0,3,3,0,3,3,1,3,0,3,3,1,3,2,3,2] J J J ?_;refine Ymd J (Zo Zf (Zc J) J (fun _=>hcA)) ?_;refine Zs ((G.refl _).only _) ?_;refine Zq 16 J J (fun _=>Xp Zd (Zc J) (Zc J) (fun _=>O) (fun _=>J)) (Zm 17 J J ?_);refine Zk (L':=[18,19]) [3,0,3,3,0,3,3,0,3,3,1,3,0,3,3,1,3,2,3,2] J J J ?_;refine Yy J Yf (Zc J) (Zc J) J J hBk (by rw [Bga];show 0+A*9+9≤l.length;omega) J ?_;intro w57 hg57 hz57 B57;have hg57:World.grownBy _ w57 (some gg):=hg57;have B57:Blk w57 gg 26 (l.take (0+A*9)++ndCells t.kids[B] (.slice pB t.kids[B].kids.length cB)++l.drop (0+A*9+(ndCells t.kids[B] (.slice pB t.kids[B].kids.length cB)).length)):=B57;rw [Apa] at B57;have hO1:=hset hg57 B57 (D':=fun k=>k<lo) (fun _ h=>h) (hkB.keep hg57 fun k hk _ e=>hk.2 (by injection e));obtain ⟨g3,c3,l3,es3,hB3,hfit3,_,_,_,hset3⟩:=hO1.seti (i:=B) (by rw [Aua];exact hB1);injection es3 with e1 _ e3;injection e1 with e1;injection e1 with e1;subst e1 e3;have hkA:=hkA.keep hg57 fun k hk _ e=>hk.2 (by injection e);replace E:=E.keep hg57 (by simp;exact ⟨fun e=>n7 e.symm,fun e=>n3 e.symm⟩);have hg0:w.heap.size≤gg:=Aga gz19 hge;have g:=Yh g hg57 hg0;have hk:=hk.keep hg57 (fun k hk _ e=>by injection e with e;subst e;exact absurd hk (Bha.2 (hn0▸hg0)));refine Zs (hg57) ?_;refine Zq 18 J J (fun _=>Xp Zd (Zc J) (Zc J) (fun _=>O) (fun _=>J)) (Zm 19 J J ?_);refine Yq (L':=[]) [3,0,3,3,0,3,3,0,3,3,1,3,0,3,3,1,3,2,3,2] J J J J ?_
  refine Yy J Yf (Zc J) (Zc J) J J hB3 (by rw [Bga];show 0+B*9+9≤l3.length;omega) J ?_;intro w58 hg58 hz58 B58;have hg58:World.grownBy _ w58 (some gg):=hg58;have B58:Blk w58 gg 26 (l3.take (0+B*9)++ndCells t.kids[A] (.slice pA t.kids[A].kids.length cA)++l3.drop (0+B*9+(ndCells t.kids[A] (.slice pA t.kids[A].kids.length cA)).length)):=B58;rw [Apa] at B58;have hO2:=hset3 hg58 B58 (D':=fun k=>k<lo) (fun _ h=>h) (hkA.keep hg58 fun k hk _ e=>hk.2 (by injection e));have eS:(t.kids.set A t.kids[B]).set B t.kids[A]=swpL t.kids A B:=by unfold swpL;rw [Ama,Ama,Ana hA1,Ana hB1];rfl
  rw [eS,Yme] at hO2;replace E:=E.keep hg58 (by simp;exact ⟨fun e=>n7 e.symm,fun e=>n3 e.symm⟩);have g:=Yh g hg58 hg0;have hk:=hk.keep hg58 (fun k hk _ e=>by injection e with e;subst e;exact absurd hk (Bha.2 (hn0▸hg0)));have kqq:=hO2.kd (D':=fun k=>k<lo) fun k hk=>hk;have kqq:Kd w58 (fun k=>k<w58.heap.size) (swpT t A B).kids _:=Kd.mono kqq fun k _ h=>h;have hcS:count (swpT t A B)=count t:=Qpc hA1 hB1;have hO:=hO2;refine Xg ?_;refine Ypa [(3,_,_),(6,_,_),(7,_,_)] (Za J (Za J (Za J (Zr _)))) (Qg (kq (Zl (Zp (Wy Zf J J E.g1.row (Xc J (Zx Zfa Vb (aqc J aq0) J) (Jya t _ _ _ [b3] hk O ((hL.grow g).top) (E.ltm Ob) g.size) ?_))))));rintro v61 w61 ⟨⟨p61,c61,rfl,q61,k61⟩,g61⟩;refine ⟨fun _=>g61,?_⟩;have g:=g.trans (g61);replace E:=E.grow (g61);try have hk:=hk.grow (g61)
  try have hO:=hO.grow (g61)
  try have kqq:=kqq.grow (g61)
  have sz61:=g61.size;refine Zw J (Qf J J (Qf J J (Qf J J (Yr J Zn J ?_))));intro b10 w10 N10;have l10:=N10.ge g;have nat10:=N10.at_;have nsz10:=N10.size;try have hO:=hO.grow N10.g
  have g:=g.trans (N10.g);try have hk:=hk.grow (N10.g)
  try have hO:=hO.grow (N10.g)
  try have kqq:=kqq.grow (N10.g)
  replace E:=E.new N10;refine Xk J Yf (Zc J) (Zc J) J J E.g0 J J ?_;intro wS4 hgS4 hzS4 BS;replace E:=E.s0 hgS4 BS;have g:=Yja g hgS4 (by intro k hk;injection hk with hk;omega);try have hk:=hk.keep hgS4 (fun k hk _ e=>by injection e with e;omega)
  try have hO:=hO.keep hgS4 O
  try have kqq:=kqq.keep hgS4 (fun k hk _ e=>by injection e with e;have hk:k<w58.heap.size:=hk;omega)
  refine Xe J (Xe J (Ze (kq (Zl (Zp (Wy Zf J J E.g1.row (Xc J (Zx Zfa Vb (aqc J aq0) J) (Jya (swpT t A B) _ _ _ [b3] kqq (by rw [hcS];omega) ((hL.grow g).top) (E.ltm Ob) g.size) ?_)))))));rintro v67 w67 ⟨⟨p67,c67,rfl,q67,k67⟩,g67⟩;refine ⟨fun _=>g67,?_⟩;have g:=g.trans (g67);replace E:=E.grow (g67);try have hk:=hk.grow (g67)
  try have hO:=hO.grow (g67)
  try have kqq:=kqq.grow (g67)
  refine Zw J (Qf J J (Qf J J (Qf J J (Yr J Zn J ?_))));intro b13 w13 N13;have l13:=N13.ge g;have nat13:=N13.at_;have nsz13:=N13.size;try have hO:=hO.grow N13.g
  have g:=g.trans (N13.g);try have hk:=hk.grow (N13.g)
  try have hO:=hO.grow (N13.g)
  try have kqq:=kqq.grow (N13.g)
  replace E:=E.new N13;refine Xk J Yf (Zc J) (Zc J) J J E.g0 J J ?_;intro wS5 hgS5 hzS5 BS;replace E:=E.s0 hgS5 BS;have g:=Yja g hgS5 (by intro k hk;injection hk with hk;omega);try have hk:=hk.keep hgS5 (fun k hk _ e=>by injection e with e;omega)
  try have hO:=hO.keep hgS5 O
  try have kqq:=kqq.keep hgS5 (fun k hk _ e=>by injection e with e;have hk:k<w58.heap.size:=hk;omega)
  refine Xe J (Xe J (Ze (kq (Zl (Zp (Zw J (Qxa J J (Zw J (Qxa J J (Yb J (fun _=>Vjd Urb (Zc J) (Zc J)) (Xe J (Ze (kq (Wb (Vx J J ?_)))))))))))))));exact ⟨by first|rfl|exact Ybg (by rw [Ztc (Ynd hA1 hB1)];simp),g⟩
 ·refine Zk (L':=[10,16,17,18,19]) [3,0,3,3,0,3,3,0,3,3,1,3,0,3,3,1,3,2,3,2] rfl rfl rfl ?_
  refine Ymd J (Zo Zf (Zc J) J (fun _=>hcA)) ?_;refine Zs ((G.refl _).only _) ?_;refine Zm 10 J J ?_;refine Zk (L':=[16,17,18,19]) [3,0,3,3,0,3,3,0,3,3,1,3,0,3,3,1,3,2,3,2] J J J ?_;refine Ymd J (Zo Zf (Zc J) J (fun _=>hcB)) ?_;refine Zs ((G.refl _).only _) ?_;refine Zq 16 J J (fun _=>Xp Zd (Zc J) (Zc J) (fun _=>O) (fun _=>J)) (Zm 17 J J ?_);refine Zk (L':=[18,19]) [3,0,3,3,0,3,3,0,3,3,1,3,0,3,3,1,3,2,3,2] J J J ?_;refine Yy J Yf (Zc J) (Zc J) J J hBk (by rw [Bga];show 0+A*9+9≤l.length;omega) J ?_;intro w57 hg57 hz57 B57;have hg57:World.grownBy _ w57 (some gg):=hg57;have B57:Blk w57 gg 26 (l.take (0+A*9)++ndCells t.kids[B] (.slice pB t.kids[B].kids.length cB)++l.drop (0+A*9+(ndCells t.kids[B] (.slice pB t.kids[B].kids.length cB)).length)):=B57;rw [Apa] at B57;have hO1:=hset hg57 B57 (D':=fun k=>k<lo) (fun _ h=>h) (hkB.keep hg57 fun k hk _ e=>hk.2 (by injection e));obtain ⟨g3,c3,l3,es3,hB3,hfit3,_,_,_,hset3⟩:=hO1.seti (i:=B) (by rw [Aua];exact hB1);injection es3 with e1 _ e3;injection e1 with e1;injection e1 with e1;subst e1 e3;have hkA:=hkA.keep hg57 fun k hk _ e=>hk.2 (by injection e);replace E:=E.keep hg57 (by simp;exact ⟨fun e=>n7 e.symm,fun e=>n3 e.symm⟩);have hg0:w.heap.size≤gg:=Aga gz19 hge;have g:=Yh g hg57 hg0;have hk:=hk.keep hg57 (fun k hk _ e=>by injection e with e;subst e;exact absurd hk (Bha.2 (hn0▸hg0)));refine Zs (hg57) ?_;refine Zq 18 J J (fun _=>Xp Zd (Zc J) (Zc J) (fun _=>O) (fun _=>J)) (Zm 19 J J ?_);refine Yq (L':=[]) [3,0,3,3,0,3,3,0,3,3,1,3,0,3,3,1,3,2,3,2] J J J J ?_
  refine Yy J Yf (Zc J) (Zc J) J J hB3 (by rw [Bga];show 0+B*9+9≤l3.length;omega) J ?_;intro w58 hg58 hz58 B58;have hg58:World.grownBy _ w58 (some gg):=hg58;have B58:Blk w58 gg 26 (l3.take (0+B*9)++ndCells t.kids[A] (.slice pA t.kids[A].kids.length cA)++l3.drop (0+B*9+(ndCells t.kids[A] (.slice pA t.kids[A].kids.length cA)).length)):=B58;rw [Apa] at B58;have hO2:=hset3 hg58 B58 (D':=fun k=>k<lo) (fun _ h=>h) (hkA.keep hg58 fun k hk _ e=>hk.2 (by injection e));have eS:(t.kids.set A t.kids[B]).set B t.kids[A]=swpL t.kids A B:=by unfold swpL;rw [Ama,Ama,Ana hA1,Ana hB1];rfl
  rw [eS,Yme] at hO2;replace E:=E.keep hg58 (by simp;exact ⟨fun e=>n7 e.symm,fun e=>n3 e.symm⟩);have g:=Yh g hg58 hg0;have hk:=hk.keep hg58 (fun k hk _ e=>by injection e with e;subst e;exact absurd hk (Bha.2 (hn0▸hg0)));have kqq:=hO2.kd (D':=fun k=>k<lo) fun k hk=>hk;have kqq:Kd w58 (fun k=>k<w58.heap.size) (swpT t A B).kids _:=Kd.mono kqq fun k _ h=>h;have hcS:count (swpT t A B)=count t:=Qpc hA1 hB1;have hO:=hO2;refine Xg ?_;refine Ypa [(3,_,_),(6,_,_),(7,_,_)] (Za J (Za J (Za J (Zr _)))) (Qg (kq (Zl (Zp (Wy Zf J J E.g1.row (Xc J (Zx Zfa Vb (aqc J aq0) J) (Jya t _ _ _ [b3] hk O ((hL.grow g).top) (E.ltm Ob) g.size) ?_))))));rintro v61 w61 ⟨⟨p61,c61,rfl,q61,k61⟩,g61⟩;refine ⟨fun _=>g61,?_⟩;have g:=g.trans (g61);replace E:=E.grow (g61);try have hk:=hk.grow (g61)
  try have hO:=hO.grow (g61)
  try have kqq:=kqq.grow (g61)
  have sz61:=g61.size;refine Zw J (Qf J J (Qf J J (Qf J J (Yr J Zn J ?_))));intro b10 w10 N10;have l10:=N10.ge g;have nat10:=N10.at_;have nsz10:=N10.size;try have hO:=hO.grow N10.g
  have g:=g.trans (N10.g);try have hk:=hk.grow (N10.g)
  try have hO:=hO.grow (N10.g)
  try have kqq:=kqq.grow (N10.g)
  replace E:=E.new N10;refine Xk J Yf (Zc J) (Zc J) J J E.g0 J J ?_;intro wS4 hgS4 hzS4 BS;replace E:=E.s0 hgS4 BS;have g:=Yja g hgS4 (by intro k hk;injection hk with hk;omega);try have hk:=hk.keep hgS4 (fun k hk _ e=>by injection e with e;omega)
  try have hO:=hO.keep hgS4 O
  try have kqq:=kqq.keep hgS4 (fun k hk _ e=>by injection e with e;have hk:k<w58.heap.size:=hk;omega)
  refine Xe J (Xe J (Ze (kq (Zl (Zp (Wy Zf J J E.g1.row (Xc J (Zx Zfa Vb (aqc J aq0) J) (Jya (swpT t A B) _ _ _ [b3] kqq (by rw [hcS];omega) ((hL.grow g).top) (E.ltm Ob) g.size) ?_)))))));rintro v67 w67 ⟨⟨p67,c67,rfl,q67,k67⟩,g67⟩;refine ⟨fun _=>g67,?_⟩;have g:=g.trans (g67);replace E:=E.grow (g67);try have hk:=hk.grow (g67)
  try have hO:=hO.grow (g67)
  try have kqq:=kqq.grow (g67)
  refine Zw J (Qf J J (Qf J J (Qf J J (Yr J Zn J ?_))));intro b13 w13 N13;have l13:=N13.ge g;have nat13:=N13.at_;have nsz13:=N13.size;try have hO:=hO.grow N13.g
  have g:=g.trans (N13.g);try have hk:=hk.grow (N13.g)
  try have hO:=hO.grow (N13.g)
  try have kqq:=kqq.grow (N13.g)
  replace E:=E.new N13;refine Xk J Yf (Zc J) (Zc J) J J E.g0 J J ?_;intro wS5 hgS5 hzS5 BS;replace E:=E.s0 hgS5 BS;have g:=Yja g hgS5 (by intro k hk;injection hk with hk;omega);try have hk:=hk.keep hgS5 (fun k hk _ e=>by injection e with e;omega)
  try have hO:=hO.keep hgS5 O
  try have kqq:=kqq.keep hgS5 (fun k hk _ e=>by injection e with e;have hk:k<w58.heap.size:=hk;omega)
  refine Xe J (Xe J (Ze (kq (Zl (Zp (Zw J (Qxa J J (Zw J (Qxa J J (Yb J (fun _=>Vjd Urb (Zc J) (Zc J)) (Xe J (Ze (kq (Wb (Vx J J ?_)))))))))))))));exact ⟨by first|rfl|exact Ybg (by rw [Ztc (Ynd hA1 hB1)];simp),g⟩
end Go.Rk
