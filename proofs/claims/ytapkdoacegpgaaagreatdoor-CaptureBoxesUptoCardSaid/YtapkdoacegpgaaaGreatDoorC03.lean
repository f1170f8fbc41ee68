/- Merged texts of one road: TypF, TypG, TypD, TypE, SynC, SynD, SynE, SynF, SynG, SynH, Max, SynI, SynJ, Stp, CkA, CkB, Cpf, Cpa, Cpr, Cps, Cpw, Cpy, Cpt, Cpz, Cqa. Conditions: each text's own. -/
import Derived.Test.YtapkdoacegpgaaaGreatDoorC02
import Derived.Test.YtapkdoacegpgaaaGreatDoorC01
set_option linter.unusedSimpArgs false
set_option linter.unusedVariables false
namespace Go.Proofs
end Go.Proofs
namespace Go.Rk
open Go.Proofs
open Go Go.RowKit
def typTab:List (List UInt8×Int):=[([105,110,116],1),([98,111,111,108],2),([91,93,105,110,116],5),([99,104,97,110],6),([102,117,110,99],7),([109,117,116,101,120],8),([114,119,109,117,116,101,120],9),([103,114,111,117,112],10),([111,110,99,101],11),([97,116,111,109,105,99],12)]
def typKind(s:List UInt8):Int:=(typTab.lookup s).getD 0
def ofF(t:Nd):Ty×Bool :=
 bif !leafB t then (ty0,false)
 else bif decide (t.kind=9) then (ty0,decide (t.text=[]))
 else bif decide (t.kind=8) then (bif nameB t.text then (⟨4,t.text⟩,true) else (ty0,false))
 else bif decide (t.kind=7) then (bif typeNameB t.text then (⟨typKind t.text,[]⟩,true) else (ty0,false))
 else (ty0,false)
theorem Xwf:((List.range 13).all fun i=>anyS [[],[110,105,108],[99,104,97,110,32,105,110,116],[102,117,110,99,40,41]] (typTexts.getD i []) || (typeNameB (typTexts.getD i [])&&decide (typKind (typTexts.getD i [])=(i:Int))))=true:=by kernel_rfl
theorem Wna{i:Nat}(hi:i<13){s:List UInt8}(hs:anyS [[],[110,105,108],[99,104,97,110,32,105,110,116],[102,117,110,99,40,41]] s=false)(h:typTexts.getD i []=s):typeNameB s=true∧typKind s=i:=by
 have:=List.all_eq_true.1 Xwf i (List.mem_range.2 hi);rw [h,hs] at this;simpa using this
theorem Xxf:(typeNames.all fun s=>anyS [[99,104,97,110],[102,117,110,99]] s || (List.range 13).any fun i=>decide (typTexts.getD i []=s))=true:=by kernel_rfl
theorem Woa{s:List UInt8}(h1:decide (s=[99,104,97,110])=false)(h2:decide (s=[102,117,110,99])=false)(h:∀ i,i<13→typTexts.getD i []≠s):typeNameB s=false:=by
 cases hn:typeNameB s;rfl;have:=List.all_eq_true.1 Xxf s ((Yma _ _).1 hn);simp only [anyS,h1,h2,Bool.or_false,Bool.false_or,List.any_eq_true,decide_eq_true_eq,List.mem_range] at this;obtain ⟨i,hi,he⟩:=this;exact absurd he (h i hi)
theorem Uwa{s:List UInt8}(h:anyS [[],[110,105,108],[99,104,97,110,32,105,110,116],[102,117,110,99,40,41]] s=true):typeNameB s=false:=by
 have:=(Yma _ _).1 h;simp only [List.mem_cons,List.not_mem_nil,or_false] at this;rcases this with rfl|rfl|rfl|rfl <;> rfl
theorem Qlf(t:Nd)(p:Option Addr)(c:Nat)(w:World)(hL:Laid w)(hb3:4≤w.heap.size)(hTx:LaidT w)(hlen:t.kids.length≤1000000):Ret PP Yxe #[ndV t (.slice p t.kids.length c)] w fun v w'=>v = .tuple #[tyV (ofF t).1,.bool (ofF t).2]∧G w w':=by
 have g:=G.refl w;refine WK 56 [0] Wud ?_;refine BM fun _ w1 _ _ g E=>?_;refine AN fun b2 w2 _ _ g E=>?_;refine IF (fun h1=>?_) fun h1=>?_
 have hq:leafB t=false:=by
  have:0<t.kids.length:=by simp only [decide_eq_true_eq] at h1;omega
  unfold leafB;rw [decide_eq_false_iff_not];omega
 refine AS fun _ _ _ g E=>?_;refine RTN ?_;refine ⟨?_,g⟩;have h0:Str [] = .string ⟨#[]⟩:=rfl;unfold ofF;simp only [hq,Bool.not_true,Bool.not_false,h1,cond_true,cond_false]
 first
 | rfl
 | (rw [of_decide_eq_true h6];rfl)
 | (rw [of_decide_eq_true h7];rfl)
 | (rw [Uwa h11];rfl)
 | (obtain ⟨e1,e2⟩:=Wna h12 h11 (of_decide_eq_true h13);rw [e1,e2];rfl)
 | (rw [Woa h6 h7 (fun j hj=>hI1.2 j (by omega))];rfl)
 have hq:leafB t=true:=by
  unfold leafB;rw [decide_eq_true_eq];simp only [decide_eq_false_iff_not] at h1;omega
 refine IF (fun h2=>?_) fun h2=>?_;(try simp only [bsimp] at h2);refine AU ?_;refine Xu (rowR (some b2)) [3,3,0,3,1,3] [0,0,2,6,1,31] mix (by kernel_rfl) [0,1,2,3,4,5] O ?_;have g:=gdr g;replace E:=E.dr;refine Zx 0 O O (fun _=>Uz [_,_] Wn O Ve (Vu) O) (Zx 1 O O (fun _=>Zn Yn (Zc O)) (Wf 2 O O (fun w1 hx=>Zt Yg (Zc O) (fun _=>(E.g1.keep hx (fun h=>E.ne 1 0 O O O (Option.some.inj h))).at_ O)) (Zx 3 O O (fun _=>Yxc (Zc O) Xg) (Zv 4 O O ?_))));refine Zw (L':=[5]) [3,3,0,3,2,3] O O O ?_;refine AS fun _ hgS2 _ g E=>?_;refine Yi (hgS2) ?_;refine Zx 5 O O (fun _=>Yt (Zc O)) (TK [2,3] (Qk (kq (Xd (Uq (rs:=[.cell 2 24,.tmp 3]) (vs:=[_,_]) O O (Jd O Xb O (E.g0.row) (Qh O (Wz))) O ?_)))));refine ⟨?_,g⟩;have h0:Str [] = .string ⟨#[]⟩:=rfl;unfold ofF;simp only [hq,Bool.not_true,Bool.not_false,h1,h2,cond_true,cond_false]
 first
 | rfl
 | (rw [of_decide_eq_true h6];rfl)
 | (rw [of_decide_eq_true h7];rfl)
 | (rw [Uwa h11];rfl)
 | (obtain ⟨e1,e2⟩:=Wna h12 h11 (of_decide_eq_true h13);rw [e1,e2];rfl)
 | (rw [Woa h6 h7 (fun j hj=>hI1.2 j (by omega))];rfl)
 refine IF (fun h3=>?_) fun h3=>?_;(try simp only [bsimp] at h3);refine AU ?_;refine CP (Uuf _ _ (hL.grow g) (by have:=g.size;omega)) (fun w23 g23=>?_);have g:=g.trans g23;replace E:=E.grow g23;refine Ze (kq (Wm O (fun h4=>?_) (fun h4=>?_)));(try simp only [bsimp] at h4);refine Zj (Zm (Yj Yn O (Yq Yg O (E.g1.at_ O) (Zba Wn Ve (pqc O (pqc O pq0)) O O (AS fun _ _ _ g E=>?_)))));refine RTN ?_;refine ⟨?_,g⟩;have h0:Str [] = .string ⟨#[]⟩:=rfl;unfold ofF;simp only [hq,Bool.not_true,Bool.not_false,h1,h2,h3,h4,cond_true,cond_false]
 first
 | rfl
 | (rw [of_decide_eq_true h6];rfl)
 | (rw [of_decide_eq_true h7];rfl)
 | (rw [Uwa h11];rfl)
 | (obtain ⟨e1,e2⟩:=Wna h12 h11 (of_decide_eq_true h13);rw [e1,e2];rfl)
 | (rw [Woa h6 h7 (fun j hj=>hI1.2 j (by omega))];rfl)
 refine AS fun _ _ _ g E=>?_;refine RTN ?_;refine ⟨?_,g⟩;have h0:Str [] = .string ⟨#[]⟩:=rfl;unfold ofF;simp only [hq,Bool.not_true,Bool.not_false,h1,h2,h3,h4,cond_true,cond_false]
 first
 | rfl
 | (rw [of_decide_eq_true h6];rfl)
 | (rw [of_decide_eq_true h7];rfl)
 | (rw [Uwa h11];rfl)
 | (obtain ⟨e1,e2⟩:=Wna h12 h11 (of_decide_eq_true h13);rw [e1,e2];rfl)
 | (rw [Woa h6 h7 (fun j hj=>hI1.2 j (by omega))];rfl)
 refine IF (fun h5=>?_) fun h5=>?_;(try simp only [bsimp] at h5);refine IF (fun h6=>?_) fun h6=>?_;(try simp only [bsimp] at h6);refine AS fun _ _ _ g E=>?_;refine RTN ?_;refine ⟨?_,g⟩;have h0:Str [] = .string ⟨#[]⟩:=rfl;unfold ofF;simp only [hq,Bool.not_true,Bool.not_false,h1,h2,h3,h5,h6,cond_true,cond_false]
 first
 | rfl
 | (rw [of_decide_eq_true h6];rfl)
 | (rw [of_decide_eq_true h7];rfl)
 | (rw [Uwa h11];rfl)
 | (obtain ⟨e1,e2⟩:=Wna h12 h11 (of_decide_eq_true h13);rw [e1,e2];rfl)
 | (rw [Woa h6 h7 (fun j hj=>hI1.2 j (by omega))];rfl)
 refine IF (fun h7=>?_) fun h7=>?_;(try simp only [bsimp] at h7);refine AS fun _ _ _ g E=>?_;refine RTN ?_;refine ⟨?_,g⟩;have h0:Str [] = .string ⟨#[]⟩:=rfl;unfold ofF;simp only [hq,Bool.not_true,Bool.not_false,h1,h2,h3,h5,h6,h7,cond_true,cond_false]
 first
 | rfl
 | (rw [of_decide_eq_true h6];rfl)
 | (rw [of_decide_eq_true h7];rfl)
 | (rw [Uwa h11];rfl)
 | (obtain ⟨e1,e2⟩:=Wna h12 h11 (of_decide_eq_true h13);rw [e1,e2];rfl)
 | (rw [Woa h6 h7 (fun j hj=>hI1.2 j (by omega))];rfl)
 refine AU ?_;refine' OR [1,2,3] (fun hb8=>?y8) (kq ?n8)
 case y8 =>
  refine AU ?_;refine' OR [1,2,3] (fun hb9=>?y9) knr
  case y9 =>
   refine AU ?_;refine' OR [1,2,3] (fun hb10=>?y10) knr
   case y10 =>
    refine AU ?_;refine SK [37,1,2,3] ?_;exact Ze knr
 case n8 =>
  refine Wm O (fun h11=>?_) (fun h11=>?_);replace h11:(anyS [[],[110,105,108],[99,104,97,110,32,105,110,116],[102,117,110,99,40,41]] t.text)=true:=h11;refine Zj (Zm (Zba Wn Ve pq0 O O (AS fun _ _ _ g E=>?_)));refine Yo O (Ze (kq (Xd (Uq (rs:=[.cell 2 24,.tmp 3]) (vs:=[_,_]) O O (Jd O Xb O (E.g0.row) (Qh O (Wz))) O ?_))));refine ⟨?_,g⟩;have h0:Str [] = .string ⟨#[]⟩:=rfl;unfold ofF;simp only [hq,Bool.not_true,Bool.not_false,h1,h2,h3,h5,h6,h7,h11,cond_true,cond_false]
  first
  | rfl
  | (rw [of_decide_eq_true h6];rfl)
  | (rw [of_decide_eq_true h7];rfl)
  | (rw [Uwa h11];rfl)
  | (obtain ⟨e1,e2⟩:=Wna h12 h11 (of_decide_eq_true h13);rw [e1,e2];rfl)
  | (rw [Woa h6 h7 (fun j hj=>hI1.2 j (by omega))];rfl)
  replace h11:(anyS [[],[110,105,108],[99,104,97,110,32,105,110,116],[102,117,110,99,40,41]] t.text)=false:=h11;refine Ya (kq (Zj (Zm (Vf Yoc O O (hTx.grow g) (Zq O (Ze (kq (Yv (Zfa (fun (i:Nat) u1=>(i≤13∧∀ j,j<i→typTexts.getD j []≠t.text)∧G w2 u1) [(1,True,_),(2,True,_),(43,True,_)] (fun (i:Nat)=>[(44,True,.int .i64 i)]) (fun (i:Nat)=>13-i) (0) ⟨⟨Nat.zero_le _,fun j hj=>absurd hj (Nat.not_lt_zero j)⟩,G.refl _⟩ (Za O (Za O (Za O (Za O (Zp _))))) ?_)))))))));rintro i u1 ⟨hI1,gl1⟩;have g:=g.trans gl1;replace E:=E.grow gl1;refine Zj (Zm (Xka O O (Ze (kq (Zj (Wm O (fun h12=>?_) (fun h12=>?_)))))));replace h12:i<13:=by simp only [decide_eq_true_eq] at h12;omega
  refine Ya (kq (Zj (Yv (Zj (Zm (Zq O (Zo O (fun _=>Zbf Jvd (Zc O) (Zc O) (fun _=>by omega) (fun _=>by show (typTexts.map Str).toArray[((i:Nat):Int).toNat]? = _;rw [List.getElem?_toArray];exact Uxf (k:=(i:Int)) (by omega) (by omega))) (Yo O (Yo O (Ze (kq (Zj (Zm (Zq O (Yj Yn O (Yq Yg O (E.g1.at_ O) (Qsd O O (?_))))))))))))))))));refine Ze (kq (Wm O (fun h13=>?_) (fun h13=>?_)));replace h13:(decide (typTexts.getD i []=t.text))=true:=h13;refine AS fun _ ga _ g E=>?_;first|replace gl1:=Yb gl1 ga (by omega)|clear gl1|skip
  refine RTN ?_;refine ⟨?_,g⟩;have h0:Str [] = .string ⟨#[]⟩:=rfl;unfold ofF;simp only [hq,Bool.not_true,Bool.not_false,h1,h2,h3,h5,h6,h7,h11,h12,h13,cond_true,cond_false]
  first
  | rfl
  | (rw [of_decide_eq_true h6];rfl)
  | (rw [of_decide_eq_true h7];rfl)
  | (rw [Uwa h11];rfl)
  | (obtain ⟨e1,e2⟩:=Wna h12 h11 (of_decide_eq_true h13);rw [e1,e2];rfl)
  | (rw [Woa h6 h7 (fun j hj=>hI1.2 j (by omega))];rfl)
  replace h13:(decide (typTexts.getD i []=t.text))=false:=h13;refine AU ?_;refine SK [44,1,2,43] ?_;refine Ze (fun a ha=>?_)
  exact ⟨i+1,ha,⟨⟨h12,fun j hj=>by
   by_cases e:j=i;subst e;simpa using h13;exact hI1.2 j (by omega)⟩,gl1⟩,by omega⟩
  replace h12:i=13:=by simp only [decide_eq_false_iff_not] at h12;omega
  refine AS fun _ ga _ g E=>?_;first|replace gl1:=Yb gl1 ga (by omega)|clear gl1|skip
  refine RTN ?_;refine ⟨?_,g⟩;have h0:Str [] = .string ⟨#[]⟩:=rfl;unfold ofF;simp only [hq,Bool.not_true,Bool.not_false,h1,h2,h3,h5,h6,h7,h11,h12,cond_true,cond_false]
  first
  | rfl
  | (rw [of_decide_eq_true h6];rfl)
  | (rw [of_decide_eq_true h7];rfl)
  | (rw [Uwa h11];rfl)
  | (obtain ⟨e1,e2⟩:=Wna h12 h11 (of_decide_eq_true h13);rw [e1,e2];rfl)
  | (rw [Woa h6 h7 (fun j hj=>hI1.2 j (by omega))];rfl)
 refine AS fun _ _ _ g E=>?_;refine RTN ?_;refine ⟨?_,g⟩;have h0:Str [] = .string ⟨#[]⟩:=rfl;unfold ofF;simp only [hq,Bool.not_true,Bool.not_false,h1,h2,h3,h5,cond_true,cond_false]
 first
 | rfl
 | (rw [of_decide_eq_true h6];rfl)
 | (rw [of_decide_eq_true h7];rfl)
 | (rw [Uwa h11];rfl)
 | (obtain ⟨e1,e2⟩:=Wna h12 h11 (of_decide_eq_true h13);rw [e1,e2];rfl)
 | (rw [Woa h6 h7 (fun j hj=>hI1.2 j (by omega))];rfl)
structure Fld where
  name:List UInt8
  ty:Ty
def fldCells(f:Fld):List Value:=[Str f.name,.int .i64 f.ty.kind,Str f.ty.name]
theorem Jvc(f:Fld):(fldCells f).length=3:=rfl
section
variable {α β:Type} (f:α→Option β)
def mapO:List α→Option (List β)
 | []=>some []
 | a::l=>match f a,mapO l with
  | some b,some r=>some (b::r)
  | _,_=>none
theorem Und:∀ (l:List α) (a:α),mapO f (l++[a])=match mapO f l,f a with
  | some r,some b=>some (r++[b])
  | _,_=>none
 | [],a=>by simp only [mapO,List.nil_append];cases f a <;> rfl
 | x::l,a=>by
  rw [List.cons_append,mapO,Und l a,mapO];cases f x <;> cases mapO f l <;> cases f a <;> rfl
theorem Xid:∀ (l:List α) (a:α),a∈l→f a=none→mapO f l=none
 | x::l,a,h,hn=>by
  rw [mapO];rcases List.mem_cons.1 h with rfl|h;rw [hn];rw [Xid l a h hn];cases f x <;> rfl
theorem Xjd:∀ (l:List α) (r:List β),mapO f l=some r→r.length=l.length
 | [],r,h=>by injection h with h;subst h;rfl
 | x::l,r,h=>by
  rw [mapO] at h
  cases h1:f x with
  | none=>rw [h1] at h;cases h
  | some b =>
   cases h2:mapO f l with
   | none=>rw [h1,h2] at h;cases h
   | some r'=>rw [h1,h2] at h;injection h with h;subst h;rw [List.length_cons,Xjd l r' h2];rfl
end
def kid0(t:Nd):Nd:=t.kids.getD 0 nd0
def Zab(f:Nd):Option Fld:=bif !decide (f.kind=3) || !decide ((f.kids.length:Int)=1) then none else bif (ofF (kid0 f)).2 then some ⟨f.text,(ofF (kid0 f)).1⟩ else none
def isStr(name:List UInt8)(d:Nd):Bool:=!(!decide (d.kind=2) || !decide (d.text=name))
def Zja(t:Nd)(name:List UInt8):List Fld×Bool:=match t.kids.find? (isStr name) with
 | none=>([],false)
 | some d=>match mapO Zab d.kids with
  | none=>([],false)
  | some l=>(l,true)
theorem Wkg{name:List UInt8}{l:List Nd}{i:Nat}(hi:i<l.length)(h1:∀ j,(hj:j<l.length)→j<i→isStr name l[j]=false)(h2:isStr name l[i]=true):l.find? (isStr name)=some l[i]:=by
 rw [List.find?_eq_some_iff_getElem];exact ⟨h2,i,hi,rfl,fun j hj=>by rw [h1 j (by omega) hj];rfl⟩
theorem Wlg{name:List UInt8}{l:List Nd}(h1:∀ j,(hj:j<l.length)→isStr name l[j]=false):l.find? (isStr name)=none:=by
 rw [List.find?_eq_none];intro x hx;obtain ⟨j,hj,rfl⟩:=List.getElem_of_mem hx;rw [h1 j hj];simp
def FldV(r:List Fld×Bool)(v:Value)(w:World):Prop:=∃ l,v = .tuple #[l,.bool r.2]∧RowF fldCells w r.1 l
theorem Wmg{w:World}{base:Nat}{s:Value}{l:List Fld}(h:w.ownsRow base Qya 3 s l.length (l.flatMap fldCells)):RowF fldCells w l s:=Xed h rfl
theorem Wng{t:Nd}(h:t.kids.length=1):∃ h0:0<t.kids.length,kid0 t=t.kids[0]:=⟨by omega,by simp [kid0,List.getD_eq_getElem?_getD,List.getElem?_eq_getElem (show 0<t.kids.length by omega)]⟩
theorem Qmf{l:List Nd}{k:Nat}(hk:k<l.length){r:List Fld}{b:Fld}(h:mapO Zab (l.take k)=some r)(hb:Zab l[k]=some b):mapO Zab (l.take (k+1))=some (r++[b]):=by
 rw [Yna hk,Und,h,hb]
theorem Qnf{w:World}{base:Nat}{l:List Fld}(f:Fld){a:Option Addr}{c:Nat}(h:w.ownsRow base Qya 3 (.slice a (l.length+1) c) (l.length+1) (l.flatMap fldCells++fldCells f)):w.ownsRow base Qya 3 (.slice a (l++[f]).length c) (l++[f]).length ((l++[f]).flatMap fldCells):=by
 rw [List.flatMap_append,List.length_append,List.flatMap_cons,List.flatMap_nil,List.append_nil];exact h
def opAr:List (List UInt8):=[[43],[45],[42],[47],[37]]
def opLt:List (List UInt8):=[[60],[60,61],[62],[62,61]]
def opEq:List (List UInt8):=[[61,61],[33,61]]
def opLo:List (List UInt8):=[[38,38],[124,124]]
def binT(op:List UInt8)(a b:Ty):Ty×Bool :=
 bif anyS opAr op then bif tyEqB a tInt&&tyEqB b tInt then (tInt,true) else (ty0,false)
 else bif anyS opLt op then bif tyEqB a tInt&&tyEqB b tInt then (tBool,true) else (ty0,false)
 else bif anyS opEq op then bif compB a b then (tBool,true) else (ty0,false)
 else bif anyS opLo op then bif tyEqB a tBool&&tyEqB b tBool then (tBool,true) else (ty0,false)
 else (ty0,false)
theorem Wog(op:List UInt8)(a b:Ty)(w:World):Ret PP Vqd #[Str op,tyV a,tyV b] w fun v w'=>v = .tuple #[tyV (binT op a b).1,.bool (binT op a b).2]∧G w w':=by
 have g:=G.refl w;refine WK 62 [0,1,2] Jfc ?_;refine BM fun _ _ _ _ g E=>?_;refine BN fun _ _ _ _ g E=>?_;refine AN fun _ _ _ _ g E=>?_;refine AN fun _ _ _ _ g E=>?_;refine AN fun _ _ _ _ g E=>?_;refine AS fun _ _ _ g E=>?_;refine AS fun _ _ _ g E=>?_;refine AU ?_;refine' OR [4,5,6,7,8,9,12] (fun hb1=>?y1) (kq ?n1)
 case y1 =>
  refine AU ?_;refine' OR [4,5,6,7,8,9,12] (fun hb2=>?y2) knr
  case y2 =>
   refine AU ?_;refine' OR [4,5,6,7,8,9,12] (fun hb3=>?y3) knr
   case y3 =>
    refine AU ?_;refine' OR [4,5,6,7,8,9,12] (fun hb4=>?y4) knr
    case y4 =>
     refine AU ?_;refine SK [13,4,5,6,7,8,9,12] ?_;exact Ze knr
 case n1 =>
  refine IF (fun h5=>?_) fun h5=>?_;(try simp only [bsimp] at h5);refine IF (fun h6=>?_) fun h6=>?_;replace h6:(tyEqB a tInt&&tyEqB b tInt)=true:=h6;refine AS fun _ _ _ g E=>?_;refine RTN ?_;refine ⟨?_,g⟩;unfold binT;simp only [anyS,opAr,opLt,opEq,opLo,h5,h6,cond_true,cond_false];rfl;replace h6:(tyEqB a tInt&&tyEqB b tInt)=false:=h6;refine AS fun _ _ _ g E=>?_;refine RTN ?_;refine ⟨?_,g⟩;unfold binT;simp only [anyS,opAr,opLt,opEq,opLo,h5,h6,cond_true,cond_false];rfl;refine AU ?_;refine' OR [4,5,6,7,8,9,12] (fun hb7=>?y7) (kq ?n7)
  case y7 =>
   refine AU ?_;refine' OR [4,5,6,7,8,9,12] (fun hb8=>?y8) knr
   case y8 =>
    refine AU ?_;refine' OR [4,5,6,7,8,9,12] (fun hb9=>?y9) knr
    case y9 =>
     refine AU ?_;refine SK [28,4,5,6,7,8,9,12] ?_;exact Ze knr
  case n7 =>
   refine IF (fun h10=>?_) fun h10=>?_;(try simp only [bsimp] at h10);refine IF (fun h11=>?_) fun h11=>?_;replace h11:(tyEqB a tInt&&tyEqB b tInt)=true:=h11;refine AS fun _ _ _ g E=>?_;refine RTN ?_;refine ⟨?_,g⟩;unfold binT;simp only [anyS,opAr,opLt,opEq,opLo,h5,h10,h11,cond_true,cond_false];rfl;replace h11:(tyEqB a tInt&&tyEqB b tInt)=false:=h11;refine AS fun _ _ _ g E=>?_;refine RTN ?_;refine ⟨?_,g⟩;unfold binT;simp only [anyS,opAr,opLt,opEq,opLo,h5,h10,h11,cond_true,cond_false];rfl;refine AU ?_;refine' OR [4,5,6,7,9,12] (fun hb12=>?y12) (kq ?n12)
   case y12 =>
    refine AU ?_;refine SK [42,4,5,6,7,9,12] ?_;exact Ze knr
   case n12 =>
    refine IF (fun h13=>?_) fun h13=>?_;(try simp only [bsimp] at h13);refine AU ?_;refine CP (Uwf _ _ _) (fun w47 g47=>?_);have g:=g.trans g47;replace E:=E.grow g47;refine IF (fun h14=>?_) fun h14=>?_;(try simp only [bsimp] at h14);refine AS fun _ _ _ g E=>?_;refine RTN ?_;refine ⟨?_,g⟩;unfold binT;simp only [anyS,opAr,opLt,opEq,opLo,h5,h10,h13,h14,cond_true,cond_false];rfl;refine AS fun _ _ _ g E=>?_;refine RTN ?_;refine ⟨?_,g⟩;unfold binT;simp only [anyS,opAr,opLt,opEq,opLo,h5,h10,h13,h14,cond_true,cond_false];rfl;refine AU ?_;refine' OR [4,5,6,7,9] (fun hb15=>?y15) (kq ?n15)
    case y15 =>
     refine AU ?_;refine SK [49,4,5,6,7,9] ?_;exact Ze knr
    case n15 =>
     refine IF (fun h16=>?_) fun h16=>?_;(try simp only [bsimp] at h16);refine IF (fun h17=>?_) fun h17=>?_;replace h17:(tyEqB a tBool&&tyEqB b tBool)=true:=h17;refine AS fun _ _ _ g E=>?_;refine RTN ?_;refine ⟨?_,g⟩;unfold binT;simp only [anyS,opAr,opLt,opEq,opLo,h5,h10,h13,h16,h17,cond_true,cond_false];rfl;replace h17:(tyEqB a tBool&&tyEqB b tBool)=false:=h17;refine AS fun _ _ _ g E=>?_;refine RTN ?_;refine ⟨?_,g⟩;unfold binT;simp only [anyS,opAr,opLt,opEq,opLo,h5,h10,h13,h16,h17,cond_true,cond_false];rfl;refine AS fun _ _ _ g E=>?_;refine RTN ?_;refine ⟨?_,g⟩;unfold binT;simp only [anyS,opAr,opLt,opEq,opLo,h5,h10,h13,h16,cond_true,cond_false];rfl
theorem Jab(y:Ty):(tyCells y).length=2:=rfl
def Ztb(s:List UInt8):Bool:=decide (s=[76,111,99,107]) || decide (s=[85,110,108,111,99,107])
def mthF(y:Ty)(s:List UInt8):List Ty×Ty×Bool :=
 bif !tyValidB y then ([],ty0,false)
 else bif decide (y.kind=8) then ([],ty0,Ztb s)
 else bif decide (y.kind=9) then ([],ty0,(Ztb s || decide (s=[82,76,111,99,107])) || decide (s=[82,85,110,108,111,99,107]))
 else bif decide (y.kind=10) then (bif decide (s=[65,100,100]) then ([tInt],ty0,true) else ([],ty0,decide (s=[68,111,110,101]) || decide (s=[87,97,105,116])))
 else bif decide (y.kind=11) then (bif decide (s=[68,111]) then ([tFunc],ty0,true) else ([],ty0,false))
 else bif decide (y.kind=12) then (bif decide (s=[76,111,97,100]) then ([],tInt,true) else bif decide (s=[83,116,111,114,101]) then ([tInt],ty0,true) else bif decide (s=[65,100,100]) then ([tInt],tInt,true) else bif decide (s=[67,111,109,112,97,114,101,65,110,100,83,119,97,112]) then ([tInt,tInt],tBool,true) else ([],ty0,false))
 else ([],ty0,false)
theorem Zof{w:World}{D:Nat→Prop}{t:Nd}{p:Option Addr}{c:Nat}(hk:Kd w D t.kids (.slice p t.kids.length c))(i:Nat):∃ p' c',i<t.kids.length→p=some ⟨pb p,po p,none⟩∧RowAt w (pb p) (po p+i*9) (ndCells (Zb t i) (.slice p' (Zb t i).kids.length c'))∧Kd w D (Zb t i).kids (.slice p' (Zb t i).kids.length c'):=by
 by_cases h:i<t.kids.length;obtain ⟨h1,p',c',h2,h3⟩:=Yk hk h;exact ⟨p',c',fun _=>⟨h1,h2,h3⟩⟩;exact ⟨none,0,fun h'=>absurd h' h⟩
def lenK(t:Nd)(n:Int):Bool:=decide ((t.kids.length:Int)=n)
def fileVarB(k:Nd):Bool:=decide (k.kind=6)&&(!lenK k 2 || !decide ((Zb k 1).kind=9))
def Ysa(t:Nd):Bool :=
 bif decide (t.kind=1) then !(t.kids.any fileVarB)&&everyB t (memK [2,6,4])
 else bif anyK [2,5] t.kind then everyB t (memK [3])
 else bif decide (t.kind=3) then kidsB t [typK]
 else bif decide (t.kind=4) then kidsB t [memK [5],fun k=>typK k || memK [9] k,memK [10]]
 else bif decide (t.kind=6) then kidsB t [typK,fun k=>expK k || memK [9] k]
 else bif decide (t.kind=10) then everyB t stK
 else bif anyK [11,17,21,28,31,33,35,36,37] t.kind then kidsB t [expK]
 else bif anyK [12,16,29,32] t.kind then kidsB t [expK,expK]
 else bif decide (t.kind=13) then kidsB t [memK [30,33]]
 else bif anyK [14,15] t.kind then kidsB t [memK [30]]
 else bif decide (t.kind=18) then kidsB t [expK,memK [10],memK [10,18,9]]
 else bif decide (t.kind=19) then kidsB t [fun k=>expK k || memK [9] k,memK [10]]
 else bif decide (t.kind=20) then lenK t 0 || kidsB t [expK]
 else bif decide (t.kind=22) then everyB t (memK [23])
 else bif decide (t.kind=23) then (lenK t 2&&Umd (Zb t 0))&&memK [10] (Zb t 1).kind
 else bif decide (t.kind=30) then decide ((0:Int)<t.kids.length)&&everyB t expK
 else bif decide (t.kind=24) then lenK t 0&&decide (0≤t.num)
 else bif decide (t.kind=25) then lenK t 0&&(decide (t.num=0) || decide (t.num=1))
 else bif anyK [27,34,26,9,7,8] t.kind then lenK t 0
 else bif decide (t.kind=38) then kidsB t [memK [10]]
 else false
def locB(t:Nd):Bool:=textB' t&&Ysa t
def permF(t:Nd):Bool:=para (fun t l=>locB t&&l.all id) t
theorem Qx(t:Nd):permF t=(locB t&&t.kids.all permF):=by
 rw [permF,Yca,List.all_map];rfl
def maxL(l:List Nat):Nat:=l.foldl max 0
def depthN(t:Nd):Nat:=para (fun _ l=>maxL l+1) t
theorem Uod(t:Nd):depthN t=maxL (t.kids.map depthN)+1:=Yca _ t
theorem Zfe(l:List Nat)(a d:Nat):l.foldl max a≤d↔a≤d∧∀ x∈l,x≤d:=by
 induction l generalizing a with
 | nil=>simp
 | cons x xs ih=>simp only [List.foldl_cons,ih,List.forall_mem_cons,Nat.max_le,and_assoc]
theorem Zcd(l:List Nat)(d:Nat):maxL l≤d↔∀ x∈l,x≤d:=by
 rw [maxL,Zfe];exact ⟨fun h=>h.2,fun h=>⟨Nat.zero_le _,h⟩⟩
theorem Xyf(t:Nd)(d:Nat):depthN t≤d↔0<d∧∀ k∈t.kids,depthN k≤d-1:=by
 rw [Uod];constructor;intro h;refine ⟨by omega,fun k hk=>?_⟩;have:=(Zcd (t.kids.map depthN) (d-1)).1 (by omega);exact this _ (List.mem_map_of_mem hk);rintro ⟨h0,h⟩;have:=(Zcd (t.kids.map depthN) (d-1)).2 (fun x hx=>by obtain ⟨k,hk,rfl⟩:=List.mem_map.1 hx;exact h k hk);omega
theorem Zge:∀ t,depthN t≤count t:=by
 refine Nd.ind fun t ih=>?_;rw [Xyf];exact ⟨Un t,fun k hk=>by have:=ih k hk;have:=Ji hk;omega⟩
def Qpf(d:Nat)(t:Nd):Bool:=permF t&&decide (depthN t≤d)
theorem Xzf{t:Nd}{n:Nat}(h:count t≤n)(i:Nat):(Zb t i).kids.length≤n:=by
 by_cases hi:i<t.kids.length;rw [Wg hi];have:=Ji (List.getElem_mem hi);have:=Up t.kids[i];omega;have:Zb t i=nd0:=by simp only [Zb,List.getD_eq_getElem?_getD];rw [List.getElem?_eq_none (by omega)];rfl
 rw [this];exact Nat.zero_le _
def validB(t:Nd):Bool:=decide (t.kind=1)&&Qpf 50 t
def exprB(t:Nd):Bool:=expK t.kind&&permF t
def blockB(t:Nd):Bool:=decide (t.kind=10)&&permF t
def stmtB(t:Nd):Bool:=stK t.kind&&permF t
def ifB(t:Nd):Bool:=decide (t.kind=18)&&permF t
def varB(t:Nd):Bool:=decide (t.kind=6)&&permF t
def commF(t:Nd):Bool:=Umd t&&permF t
def plainB(t:Nd):Bool:=decide (t.text=[])
def noneB(t:Nd):Bool:=(decide (t.kind=9)&&decide (t.text=[]))&&lenK t 0
def kindB(t:Nd)(k:Int):Bool:=decide (t.kind=k)&&exprB t
theorem Zpf{α:Type}{l:List α}(h:l.length=2):∃ a b,l=[a,b]:=by
 match l,h with|[a,b],_=>exact ⟨a,b,rfl⟩
theorem Waf{α:Type}{l:List α}(h:l.length=3):∃ a b c,l=[a,b,c]:=by
 match l,h with|[a,b,c],_=>exact ⟨a,b,c,rfl⟩
theorem Zna(a k:Int):memK [a] k=decide (k=a):=by simp [memK]
theorem Jbb{t:Nd}(n:Nat)(h:t.kids.length≠n):lenK t (n:Int)=false:=by rw [lenK,Yvh];omega
theorem Zdd{t:Nd}{qs:List (Int→Bool)}(h:t.kids.length≠qs.length):kidsB t qs=false:=by rw [kidsB,Yvh h,Bool.false_and]
theorem Qqf{t:Nd}{f:Nd→Bool}:(lenK t 0&&t.kids.all f)=lenK t 0:=by
 by_cases h:t.kids.length=0;rw [List.length_eq_zero_iff.1 h,List.all_nil,Bool.and_true];rw [show lenK t 0=false from Jbb 0 h];rfl
theorem Qoe{t:Nd}{q:Int→Bool}:(kidsB t [q]&&t.kids.all permF)=(lenK t 1&&(q (Zb t 0).kind&&permF (Zb t 0))):=by
 by_cases h:t.kids.length=1;obtain ⟨a,ha⟩:=List.length_eq_one_iff.1 h;simp [lenK,kidsB,Zb,ha,List.range_succ];rw [show lenK t 1=false from Jbb 1 h,Zdd h];rfl
theorem Zhe{t:Nd}{q q2:Int→Bool}:(kidsB t [q,q2]&&t.kids.all permF)=(lenK t 2&&((q (Zb t 0).kind&&permF (Zb t 0))&&(q2 (Zb t 1).kind&&permF (Zb t 1)))):=by
 by_cases h:t.kids.length=2;obtain ⟨a,b,ha⟩:=Zpf h;simp [lenK,kidsB,Zb,ha,List.range_succ];ac_rfl;rw [show lenK t 2=false from Jbb 2 h,Zdd h];rfl
theorem Qpe{t:Nd}{q q2 q3:Int→Bool}:(kidsB t [q,q2,q3]&&t.kids.all permF)=(lenK t 3&&(((q (Zb t 0).kind&&permF (Zb t 0))&&(q2 (Zb t 1).kind&&permF (Zb t 1)))&&(q3 (Zb t 2).kind&&permF (Zb t 2)))):=by
 by_cases h:t.kids.length=3;obtain ⟨a,b,c,ha⟩:=Waf h;simp [lenK,kidsB,Zb,ha,List.range_succ];ac_rfl;rw [show lenK t 3=false from Jbb 3 h,Zdd h];rfl
theorem all_1{t:Nd}{f:Nd→Bool}:(lenK t 1&&t.kids.all f)=(lenK t 1&&f (Zb t 0)):=by
 by_cases h:t.kids.length=1;obtain ⟨a,ha⟩:=List.length_eq_one_iff.1 h;simp [lenK,Zb,ha];rw [show lenK t 1=false from Jbb 1 h];rfl
theorem Qtg{t:Nd}{f:Nd→Bool}:(lenK t 2&&t.kids.all f)=(lenK t 2&&(f (Zb t 0)&&f (Zb t 1))):=by
 by_cases h:t.kids.length=2;obtain ⟨a,b,ha⟩:=Zpf h;simp [lenK,Zb,ha];rw [show lenK t 2=false from Jbb 2 h];rfl
theorem Xmb{t:Nd}{q:Int→Bool}:(everyB t q&&t.kids.all permF)=t.kids.all fun k=>q k.kind&&permF k:=by
 rw [everyB,Bool.eq_iff_iff];simp only [Bool.and_eq_true,List.all_eq_true];exact ⟨fun h k hk=>⟨h.1 k hk,h.2 k hk⟩,fun h=>⟨fun k hk=>(h k hk).1,fun k hk=>(h k hk).2⟩⟩
theorem Wpg{t:Nd}:(everyB t expK&&t.kids.all permF)=t.kids.all exprB:=Xmb
def Qq(t:Nd):Bool :=
 bif decide (t.kind=24) then (plainB t&&lenK t 0)&&decide (0≤t.num)
 else bif decide (t.kind=25) then (plainB t&&lenK t 0)&&(decide (t.num=0) || decide (t.num=1))
 else bif decide (t.kind=26) then plainB t&&lenK t 0
 else bif anyK [27,34] t.kind then nameB t.text&&lenK t 0
 else bif decide (t.kind=28) then (nameB t.text&&lenK t 1)&&exprB (Zb t 0)
 else bif decide (t.kind=29) then (plainB t&&lenK t 2)&&t.kids.all exprB
 else bif decide (t.kind=30) then (plainB t&&decide (1≤(t.kids.length:Int)))&&t.kids.all exprB
 else bif decide (t.kind=31) then ((decide (t.text=[45]) || decide (t.text=[33]))&&lenK t 1)&&exprB (Zb t 0)
 else bif decide (t.kind=32) then (anyS binOps t.text&&lenK t 2)&&t.kids.all exprB
 else bif anyK [33,35,36,37] t.kind then (plainB t&&lenK t 1)&&exprB (Zb t 0)
 else bif decide (t.kind=38) then (plainB t&&lenK t 1)&&blockB (Zb t 0)
 else false
theorem fl0{t:Nd}{X:Bool}:(X&&lenK t 0)=((X&&lenK t 0)&&t.kids.all permF):=by rw [Bool.and_assoc,Qqf]
theorem fl0'{t:Nd}{X Y:Bool}:((X&&lenK t 0)&&Y)=((X&&(lenK t 0&&Y))&&t.kids.all permF):=by
 rw [show ((X&&(lenK t 0&&Y))&&t.kids.all permF)=((X&&Y)&&(lenK t 0&&t.kids.all permF)) by simp only [Bool.and_assoc,Bool.and_comm,Bool.and_left_comm],Qqf];simp only [Bool.and_assoc,Bool.and_comm,Bool.and_left_comm]
theorem fl1{t:Nd}{X:Bool}{q:Int→Bool}:((X&&lenK t 1)&&(q (Zb t 0).kind&&permF (Zb t 0)))=((X&&kidsB t [q])&&t.kids.all permF):=by rw [Bool.and_assoc,Bool.and_assoc,Qoe]
theorem fl2{t:Nd}{X:Bool}:((X&&lenK t 2)&&t.kids.all exprB)=((X&&kidsB t [expK,expK])&&t.kids.all permF):=by rw [Bool.and_assoc,Bool.and_assoc,Zhe,Qtg];rfl
theorem flv{t:Nd}{X Y Z:Bool}(h:Y=Z):((X&&Y)&&t.kids.all exprB)=((X&&(Z&&everyB t expK))&&t.kids.all permF):=by rw [Bool.and_assoc,Bool.and_assoc,Bool.and_assoc,Wpg,h]
theorem Zoa(t:Nd):Qq t=exprB t:=by
 rw [exprB,Qx,locB];unfold Qq textB' Ysa;by_cases h:t.kind=24;rw [h];exact fl0';by_cases h1:t.kind=25;rw [h1];exact fl0';by_cases h2:t.kind=26;rw [h2];exact fl0;by_cases h3:t.kind=27;rw [h3];exact fl0;by_cases h4:t.kind=34;rw [h4];exact fl0;by_cases h5:t.kind=28;rw [h5];exact fl1;by_cases h6:t.kind=29;rw [h6];exact fl2;by_cases h7:t.kind=30;rw [h7];exact flv (by rw [decide_eq_decide];omega);by_cases h8:t.kind=31;rw [h8];exact fl1;by_cases h9:t.kind=32;rw [h9];exact fl2;by_cases h10:t.kind=33;rw [h10];exact fl1;by_cases h11:t.kind=35;rw [h11];exact fl1;by_cases h12:t.kind=36;rw [h12];exact fl1;by_cases h13:t.kind=37;rw [h13];exact fl1;by_cases h14:t.kind=38;rw [h14];refine Eq.trans ?_ (fl1 (X:=plainB t) (q:=memK [10]));rw [Zna];rfl;simp only [expK,anyK,Yvh h,Yvh h1,Yvh h2,Yvh h3,Yvh h4,Yvh h5,Yvh h6,Yvh h7,Yvh h8,Yvh h9,Yvh h10,Yvh h11,Yvh h12,Yvh h13,Yvh h14,Bool.or_false,cond_false,Bool.false_and]
def Wzc(t:Nd):Bool:=bif !decide (t.kind=10) || !plainB t then false else t.kids.all stmtB
def Zqf(t:Nd):Bool:=bif (!decide (t.kind=18) || !plainB t) || !lenK t 3 then false else (exprB (Zb t 0)&&blockB (Zb t 1))&&((blockB (Zb t 2) || ifB (Zb t 2)) || noneB (Zb t 2))
def refVar(t:Nd):Bool:=(((decide (t.kind=6)&&nameB t.text)&&lenK t 2)&&isTypeB (Zb t 0))&&(noneB (Zb t 1) || exprB (Zb t 1))
theorem Zie(a b p:Bool):((a&&p) || (b&&p))=((b || a)&&p):=by cases a <;> cases b <;> cases p <;> rfl
theorem Qrf(a b c p:Bool):(((a&&p) || (b&&p)) || (c&&p))=(((a || b) || c)&&p):=by cases a <;> cases b <;> cases c <;> cases p <;> rfl
theorem Zje(a b c:Bool):(bif !a || !b then false else c)=((a&&b)&&c):=by cases a <;> cases b <;> rfl
theorem Wqg(a b c d:Bool):(bif (!a || !b) || !c then false else d)=(((a&&b)&&c)&&d):=by cases a <;> cases b <;> cases c <;> rfl
theorem Zbb(t:Nd):noneB t=(decide (t.kind=9)&&permF t):=by
 rw [noneB];by_cases h:t.kind=9;rw [Qx,locB,textB',Ysa,h,Bool.and_assoc];exact congrArg (true && ·) fl0;rw [Yvh h];rfl
theorem Wyb(t:Nd):isTypeB t=(typK t.kind&&permF t):=by
 rw [Qx,locB];unfold isTypeB textB' Ysa;by_cases h:t.kind=8;rw [h];exact fl0;by_cases h1:t.kind=7;rw [h1];exact fl0;rw [Yvh h,Yvh h1,typK,anyK,anyK,Yvh h,Yvh h1];rfl
theorem Qgc(t:Nd):Wzc t=blockB t:=by
 rw [Wzc,blockB,Zje];by_cases h:t.kind=10
 rw [Qx,locB,textB',Ysa,h,Bool.and_assoc];exact congrArg (true && ·) (by
  refine Eq.trans ?_ (Bool.and_assoc (plainB t) (everyB t stK) _).symm;rw [Xmb];rfl)
 rw [Yvh h];rfl
theorem Wde(t:Nd):Zqf t=ifB t:=by
 rw [Zqf,Wqg,show ifB t=(decide (t.kind=18)&&permF t) from rfl];by_cases h:t.kind=18
 rw [Qx,locB,textB',Ysa,h,Bool.and_assoc,Bool.and_assoc];exact congrArg (true && ·) (by
  refine Eq.trans ?_ (Bool.and_assoc (plainB t) (kidsB t [expK,memK [10],memK [10,18,9]]) _).symm;rw [Qpe,Zna,Zbb,show memK [10,18,9] (Zb t 2).kind=((decide ((Zb t 2).kind=10) || decide ((Zb t 2).kind=18)) || decide ((Zb t 2).kind=9)) by simp [memK,Bool.or_assoc],← Qrf];rfl)
 rw [Yvh h];rfl
theorem Upd(t:Nd):refVar t=varB t:=by
 rw [refVar,varB];by_cases h:t.kind=6
 rw [Qx,locB,textB',Ysa,h,Bool.and_assoc,Bool.and_assoc,Bool.and_assoc];exact congrArg (true && ·) (by
  refine Eq.trans ?_ (Bool.and_assoc (nameB t.text) (kidsB t [typK,fun k=>expK k || memK [9] k]) _).symm;rw [Zhe,Zna,Zbb,Wyb,show exprB (Zb t 1)=(expK (Zb t 1).kind&&permF (Zb t 1)) from rfl,Zie])
 rw [Yvh h];rfl
def Zub(t:Nd):Bool :=
 bif anyK [16,9] t.kind then stmtB t || noneB t
 else bif decide (t.kind=13) then stmtB t&&decide ((Zb t 0).kind=33)
 else bif decide (t.kind=12) then stmtB t&&decide ((Zb t 1).kind=33)
 else bif decide (t.kind=11) then stmtB t&&decide ((Zb t 0).kind=33)
 else false
theorem Uqc{t:Nd}(h:t.kind=13∨t.kind=11)(hp:permF t=true):t.kids.length=1:=by
 rw [Qx,locB,Bool.and_eq_true,Bool.and_eq_true] at hp;have hf:=hp.1.2;rcases h with h|h <;> rw [Ysa,h] at hf
 have:kidsB t [memK [30,33]]=true:=hf;rw [kidsB,Bool.and_eq_true,decide_eq_true_eq] at this;exact this.1;have:kidsB t [expK]=true:=hf;rw [kidsB,Bool.and_eq_true,decide_eq_true_eq] at this;exact this.1
theorem Jga{t:Nd}(h:t.kind=12∨t.kind=6)(hp:permF t=true):t.kids.length=2:=by
 rw [Qx,locB,Bool.and_eq_true,Bool.and_eq_true] at hp;have hf:=hp.1.2;rcases h with h|h <;> rw [Ysa,h] at hf
 have:kidsB t [expK,expK]=true:=hf;rw [kidsB,Bool.and_eq_true,decide_eq_true_eq] at this;exact this.1;have:kidsB t [typK,fun k=>expK k || memK [9] k]=true:=hf;rw [kidsB,Bool.and_eq_true,decide_eq_true_eq] at this;exact this.1
theorem Zke{a b c:Bool}(h:a=true→b=true):(a&&c)=((b&&c)&&a):=by revert h;cases a <;> cases b <;> cases c <;> simp
theorem Xkd(t:Nd):Zub t=commF t:=by
 rw [Zub,commF,Zbb,stmtB];unfold Umd;by_cases h:t.kind=16;rw [h];exact (show (permF t || false)=_ from Bool.or_false _);by_cases h1:t.kind=9;rw [h1];rfl;by_cases h2:t.kind=13;have hl:permF t=true→decide (((t.kids.length:Int)-1)=0)=true:=fun hp=>by rw [Uqc (.inl h2) hp];rfl
 rw [h2];exact (show _=((decide (((t.kids.length:Int)-1)=0)&&decide ((Zb t 0).kind=33))&&permF t) from Zke hl);by_cases h3:t.kind=12;have hl:permF t=true→decide (((t.kids.length:Int)-1)=1)=true:=fun hp=>by rw [Jga (.inl h3) hp];rfl
 rw [h3];exact (show _=((decide (((t.kids.length:Int)-1)=1)&&decide ((Zb t 1).kind=33))&&permF t) from Zke hl);by_cases h4:t.kind=11;have hl:permF t=true→decide (((t.kids.length:Int)-1)=0)=true:=fun hp=>by rw [Uqc (.inr h4) hp];rfl
 rw [h4];exact (show _=((decide (((t.kids.length:Int)-1)=0)&&decide ((Zb t 0).kind=33))&&permF t) from Zke hl);simp only [anyK,Yvh h,Yvh h1,Yvh h2,Yvh h3,Yvh h4,Bool.or_false,cond_false,Bool.false_and]
def Qpa(t:Nd):Bool:=(((decide (t.kind=23)&&plainB t)&&lenK t 2)&&commF (Zb t 0))&&blockB (Zb t 1)
theorem Qsf(t:Nd):Qpa t=(decide (t.kind=23)&&permF t):=by
 rw [Qpa];by_cases h:t.kind=23;rw [Qx,locB,textB',Ysa,h];refine Eq.trans (b:=((plainB t&&((lenK t 2&&Umd (Zb t 0))&&memK [10] (Zb t 1).kind))&&t.kids.all permF)) ?_ rfl;rw [Zna,show ((plainB t&&((lenK t 2&&Umd (Zb t 0))&&decide ((Zb t 1).kind=10)))&&t.kids.all permF)=((plainB t&&(Umd (Zb t 0)&&decide ((Zb t 1).kind=10)))&&(lenK t 2&&t.kids.all permF)) by ac_rfl,Qtg,commF,blockB];show (((plainB t&&lenK t 2)&&_)&&_)=_;ac_rfl;rw [Yvh h];rfl
def refSelect(t:Nd):Bool:=t.kids.all Qpa&&plainB t
theorem Vac{t:Nd}(h:t.kind=22):refSelect t=permF t:=by
 rw [Qx,locB,textB',Ysa,h];refine Eq.trans (b:=((plainB t&&everyB t (memK [23]))&&t.kids.all permF)) ?_ rfl;rw [Bool.and_assoc,Xmb,refSelect,Bool.and_comm];congr 2;funext k;rw [Qsf,Zna]
def refStmt(t:Nd):Bool :=
 bif decide (t.kind=6) then varB t
 else bif decide (t.kind=10) then blockB t
 else bif decide (t.kind=18) then ifB t
 else bif decide (t.kind=22) then permF t
 else bif decide (t.kind=11) then (nameB t.text&&lenK t 1)&&exprB (Zb t 0)
 else bif anyK [12,16] t.kind then (plainB t&&lenK t 2)&&t.kids.all exprB
 else bif decide (t.kind=13) then (plainB t&&lenK t 1)&&(kindB (Zb t 0) 30 || kindB (Zb t 0) 33)
 else bif anyK [14,15] t.kind then (plainB t&&lenK t 1)&&kindB (Zb t 0) 30
 else bif anyK [17,21] t.kind then (plainB t&&lenK t 1)&&exprB (Zb t 0)
 else bif decide (t.kind=20) then (plainB t&&decide ((t.kids.length:Int)≤1))&&t.kids.all exprB
 else bif decide (t.kind=19) then ((plainB t&&lenK t 2)&&(noneB (Zb t 0) || exprB (Zb t 0)))&&blockB (Zb t 1)
 else false
theorem Xld(t:Nd):kindB t 30=(memK [30] t.kind&&permF t):=by
 rw [kindB,Zna,exprB];by_cases h:t.kind=30;rw [h];rfl;rw [Yvh h];rfl
theorem Qtf(t:Nd):kindB t 33=(decide (t.kind=33)&&permF t):=by
 rw [kindB,exprB];by_cases h:t.kind=33;rw [h];rfl;rw [Yvh h];rfl
theorem Quf(t:Nd):(kindB t 30 || kindB t 33)=(memK [30,33] t.kind&&permF t):=by
 rw [Xld,Qtf,Zie,Zna];congr 1;simp [memK,Bool.or_comm]
theorem Wrg{t:Nd}:(decide ((t.kids.length:Int)≤1)&&t.kids.all exprB)=((lenK t 0 || kidsB t [expK])&&t.kids.all permF):=by
 by_cases h:t.kids.length=0;rw [List.length_eq_zero_iff.1 h,show lenK t 0=true by rw [lenK,decide_eq_true_eq];omega];rfl;by_cases h1:t.kids.length=1;rw [show lenK t 0=false from Jbb 0 h,Bool.false_or,Qoe,show decide ((t.kids.length:Int)≤1)=lenK t 1 by rw [lenK,decide_eq_decide];omega,all_1];rfl;rw [show lenK t 0=false from Jbb 0 h,Zdd h1,Yvh (by omega)];rfl
theorem Qy(t:Nd):refStmt t=stmtB t:=by
 rw [stmtB];by_cases h:t.kind=6;rw [refStmt,varB,h];rfl;by_cases h1:t.kind=10;rw [refStmt,blockB,h1];rfl;by_cases h2:t.kind=18;rw [refStmt,ifB,h2];rfl;by_cases h3:t.kind=22;rw [refStmt,h3];rfl;rw [Qx,locB];unfold refStmt textB' Ysa;by_cases h4:t.kind=11;rw [h4];exact fl1;by_cases h5:t.kind=12;rw [h5];exact fl2;by_cases h6:t.kind=16;rw [h6];exact fl2;by_cases h7:t.kind=13;rw [h7];refine Eq.trans ?_ (fl1 (X:=plainB t) (q:=memK [30,33]));rw [← Quf];rfl;by_cases h8:t.kind=14;rw [h8];refine Eq.trans ?_ (fl1 (X:=plainB t) (q:=memK [30]));rw [← Xld];rfl;by_cases h9:t.kind=15;rw [h9];refine Eq.trans ?_ (fl1 (X:=plainB t) (q:=memK [30]));rw [← Xld];rfl;by_cases h10:t.kind=17;rw [h10];exact fl1;by_cases h11:t.kind=21;rw [h11];exact fl1;by_cases h12:t.kind=20;rw [h12];refine Eq.trans (b:=(plainB t&&decide ((t.kids.length:Int)≤1))&&t.kids.all exprB) rfl ?_;rw [Bool.and_assoc,Wrg,← Bool.and_assoc];rfl;by_cases h13:t.kind=19;rw [h13];refine Eq.trans (b:=((plainB t&&lenK t 2)&&(noneB (Zb t 0) || exprB (Zb t 0)))&&blockB (Zb t 1)) O (Eq.trans (b:=((plainB t&&kidsB t [fun k=>expK k || memK [9] k,memK [10]])&&t.kids.all permF)) ?_ O);rw [Bool.and_assoc (plainB t) (kidsB t _),Zhe,Zna,Zna,Zbb,show exprB (Zb t 0)=(expK (Zb t 0).kind&&permF (Zb t 0)) from rfl,Zie,blockB];ac_rfl;simp only [stK,anyK,Yvh h,Yvh h1,Yvh h2,Yvh h3,Yvh h4,Yvh h5,Yvh h6,Yvh h7,Yvh h8,Yvh h9,Yvh h10,Yvh h11,Yvh h12,Yvh h13,Bool.or_false,cond_false,Bool.false_and]
structure ROk (t:Nd):Prop where
  ex:∀ (p:Option Addr) (c:Nat) (D:Nat→Prop) (w:World),Kd w D t.kids (.slice p t.kids.length c)→Ret PP Yhc #[ndV t (.slice p t.kids.length c)] w fun r w'=>r = .bool (exprB t)∧G w w'
  bl:∀ (p:Option Addr) (c:Nat) (D:Nat→Prop) (w:World),Kd w D t.kids (.slice p t.kids.length c)→Ret PP Qcb #[ndV t (.slice p t.kids.length c)] w fun r w'=>r = .bool (blockB t)∧G w w'
  st:∀ (p:Option Addr) (c:Nat) (D:Nat→Prop) (w:World),Kd w D t.kids (.slice p t.kids.length c)→Ret PP Yic #[ndV t (.slice p t.kids.length c)] w fun r w'=>r = .bool (stmtB t)∧G w w'
  fi:∀ (p:Option Addr) (c:Nat) (D:Nat→Prop) (w:World),Kd w D t.kids (.slice p t.kids.length c)→Ret PP Uzc #[ndV t (.slice p t.kids.length c)] w fun r w'=>r = .bool (ifB t)∧G w w'
  cm:∀ (p:Option Addr) (c:Nat) (D:Nat→Prop) (w:World),Kd w D t.kids (.slice p t.kids.length c)→Ret PP Ykc #[ndV t (.slice p t.kids.length c)] w fun r w'=>r = .bool (commF t)∧G w w'
def Blw(t:Nd):Prop:=∀ k,count k<count t→ROk k
theorem Blw.kid{t:Nd}(ih:Blw t){i:Nat}(h:i<t.kids.length):ROk (Zb t i):=by
 refine ih _ ?_;rw [Wg h];have:=Ji (List.getElem_mem h);omega
theorem Yvc{w:World}{D:Nat→Prop}{t:Nd}{p:Option Addr}{c:Nat}(hk:Kd w D t.kids (.slice p t.kids.length c))(ih:Blw t)(i:Nat):∃ p' c',i<t.kids.length→p=some ⟨pb p,po p,none⟩∧RowAt w (pb p) (po p+i*9) (ndCells (Zb t i) (.slice p' (Zb t i).kids.length c'))∧Kd w D (Zb t i).kids (.slice p' (Zb t i).kids.length c')∧ROk (Zb t i):=by
 obtain ⟨p',c',h⟩:=Zof hk i;exact ⟨p',c',fun hi=>⟨(h hi).1,(h hi).2.1,(h hi).2.2,ih.kid hi⟩⟩
theorem Jzb(t:Nd)(p:Option Addr)(c:Nat)(w:World):Ret PP Vid #[ndV t (.slice p t.kids.length c)] w fun r w'=>r = .bool (noneB t)∧G w w':=by
 have g:=G.refl w;refine WK 17 [0] Qrc ?_;refine BM fun _ _ _ _ g E=>?_;refine RTN ?_;exact ⟨rfl,g⟩
theorem Jcb(l:List Nd)(p:Option Addr)(c:Nat)(D:Nat→Prop)(w:World)(hk:Kd w D l (.slice p l.length c))(hr:∀ k∈l,ROk k)(hln:l.length≤1000000):Ret PP Xic #[.slice p l.length c] w fun r w'=>r = .bool (l.all exprB)∧G w w':=by
 have g:=G.refl w;obtain ⟨p',c',hpe,_,hks⟩:=hk;injection hpe with hpe _ hce;subst hpe hce;refine WK 16 [0] Qjb ?_;refine AU ?_;refine Zfa (fun (i:Nat) u1=>(i≤l.length∧∀ j,(h:j<l.length)→j<i→exprB l[j]=true)∧G w u1) [(0,True,_)] (fun (i:Nat)=>[(3,True,.int .i64 i)]) (fun (i:Nat)=>l.length-i) (0) ⟨⟨Nat.zero_le _,fun j _ hj=>absurd hj (Nat.not_lt_zero j)⟩,G.refl _⟩ (Za O (Za O (Zp _))) ?_;rintro i u1 ⟨hI1,gl1⟩;have g:=g.trans gl1;refine Zj (Zj (Zm (Zq O (Zq O (Xla Zd O (Xka O O (Ze (kq (Wm O (fun h1=>?_) (fun h1=>?_))))))))));replace h1:i<l.length:=by simp only [decide_eq_true_eq] at h1;omega
 obtain ⟨b,o,rfl,hD,xs,hR,hX⟩:=hks (by omega);obtain ⟨p',c',hcell,hkid⟩:=Xjb hR hX h1;refine Ya (kq (Zj (Yv (Zj (Zm (Zq O (Zq O (Zfb Zd O O (by omega) (Vf Zh O O (hcell.grow g) (Vh O (Yl Jk Vi (aqc O aq0) O) ((hr _ (List.getElem_mem h1)).ex _ _ D _ (hkid.grow g)) (fun w14 g14=>?_)))))))))));have g:=g.trans g14;have gl1:=gl1.trans (g14);refine IF (fun h2=>?_) fun h2=>?_;(try simp only [bsimp] at h2);refine RTN ?_;refine ⟨Yxh ?_,g⟩;rw [eq_comm,List.all_eq_false];exact ⟨_,List.getElem_mem h1,by simpa using h2⟩;refine AU ?_;refine SK [3,0] ?_;refine Ze (fun a ha=>?_);refine ⟨i+1,ha,⟨⟨h1,fun j h hj=>?_⟩,gl1⟩,by omega⟩;by_cases e:j=i;subst e;simpa using h2;exact hI1.2 j h (by omega);refine RTN ?_;refine ⟨Yxh ?_,g⟩;rw [eq_comm,List.all_eq_true];intro x hx;obtain ⟨j,hj,rfl⟩:=List.getElem_of_mem hx;exact hI1.2 j hj (by simp only [decide_eq_false_iff_not] at h1;omega)
theorem Zle(t:Nd)(n:Int)(p:Option Addr)(c:Nat)(D:Nat→Prop)(w:World)(hk:Kd w D t.kids (.slice p t.kids.length c))(h:ROk t):Ret PP Xle #[ndV t (.slice p t.kids.length c),.int .i64 n] w fun r w'=>r = .bool (kindB t n)∧G w w':=by
 have g:=G.refl w;refine WK 13 [0,1] Vmd ?_;refine BM fun _ _ _ _ g E=>?_;refine AU ?_;refine CG (fun hc=>h.ex _ _ D _ (hk.grow g)) (fun w11 g11=>?_);have g:=g.trans g11;replace E:=E.grow g11;refine RTN ?_;exact ⟨rfl,g⟩
theorem Wbf(t:Nd)(p:Option Addr)(c:Nat)(D:Nat→Prop)(w:World)(hk:Kd w D t.kids (.slice p t.kids.length c))(ih:Blw t)(hln:t.kids.length≤1000000):Ret PP Yhc #[ndV t (.slice p t.kids.length c)] w fun r w'=>r = .bool (exprB t)∧G w w':=by
 rw [← Zoa];have g:=G.refl w;obtain ⟨p0,c0,h0x⟩:=Yvc hk ih 0;have hr:∀ k∈t.kids,ROk k:=fun k hk=>ih k (Ji hk);refine WK 165 [0] Qvc ?_;refine BM fun _ _ _ _ g E=>?_;refine IF (fun h1=>?_) fun h1=>?_;(try simp only [bsimp] at h1);refine RTN ?_;refine ⟨Yxh ?_,g⟩;unfold Qq;simp only [anyK,h1,cond_true,cond_false] <;> rfl
 refine IF (fun h2=>?_) fun h2=>?_;(try simp only [bsimp] at h2);refine RTN ?_;refine ⟨Yxh ?_,g⟩;unfold Qq;simp only [anyK,h1,h2,cond_true,cond_false] <;> rfl
 refine IF (fun h3=>?_) fun h3=>?_;(try simp only [bsimp] at h3);refine RTN ?_;refine ⟨Yxh ?_,g⟩;unfold Qq;simp only [anyK,h1,h2,h3,cond_true,cond_false] <;> rfl
 refine AU ?_;refine' OR [1,2,3,4,12] (fun hb4=>?y4) (kq ?n4)
 case y4 =>
  refine AU ?_;refine SK [49,1,2,3,4,12] ?_;exact Ze knr
 case n4 =>
  refine IF (fun h5=>?_) fun h5=>?_;(try simp only [bsimp] at h5);refine AU ?_;refine CP (Vwa _ _) (fun w54 g54=>?_);have g:=g.trans g54;replace E:=E.grow g54;refine RTN ?_;refine ⟨Yxh ?_,g⟩;unfold Qq;simp only [anyK,h1,h2,h3,h5,cond_true,cond_false] <;> rfl
  refine IF (fun h6=>?_) fun h6=>?_;(try simp only [bsimp] at h6);refine Zj (Zm (Yj Yn O (Yq Yg O (E.g0.at_ O) (Vh O (Yl Zob Vi (aqc O aq0) O) (Vwa _ _) (fun w63 g63=>?_)))));have g:=g.trans g63;replace E:=E.grow g63;refine Zq O (Zi O O O (fun _=>Zl (Zc O)) (Zi O O O (fun _=>Zla (Zk O id) Xg) (Zo O (fun _=>Zz (Zc O) (Zk O id)) (Zq O (Zi O O O (fun _=>Zn Zg (Zc O)) (Ye O O O (Zt Zf (Zk O id) (fun _=>E.g0.at_ O)) (Zi O O O (fun _=>Yz Zd (Zk O id) Xg (fun hc=>by (have hz:=hc.2;first|(unfold lenK at hz;simp at hz;omega)|(simp at hz;omega))) (fun hc=>(h0x (by (have hz:=hc.2;first|(unfold lenK at hz;simp at hz;omega)|(simp at hz;omega)))).1)) (Ye O O O (Zy Zh (Zk O id) O (fun hc=>(h0x (by (have hz:=hc.2;first|(unfold lenK at hz;simp at hz;omega)|(simp at hz;omega)))).2.1.grow g)) (Xy O O O (fun _=>(Yl Jk Vi (Yr (Zk O id) (Xl)) O)) (fun hc=>(h0x (by (have hz:=hc.2;first|(unfold lenK at hz;simp at hz;omega)|(simp at hz;omega)))).2.2.2.ex _ _ D _ ((h0x (by (have hz:=hc.2;first|(unfold lenK at hz;simp at hz;omega)|(simp at hz;omega)))).2.2.1.grow g)) (fun w73 g73=>?_))))))))));have g:=g.trans g73;replace E:=E.grow g73;refine RTN ?_;refine ⟨Yxh ?_,g⟩;unfold Qq;simp only [anyK,h1,h2,h3,h5,h6,cond_true,cond_false] <;> rfl
  refine IF (fun h7=>?_) fun h7=>?_;(try simp only [bsimp] at h7);refine AU ?_;refine CG (fun hc=>Jcb _ _ _ D _ (hk.grow g) hr hln) (fun w85 g85=>?_);have g:=g.trans g85;replace E:=E.grow g85;refine RTN ?_;refine ⟨Yxh ?_,g⟩;unfold Qq;simp only [anyK,h1,h2,h3,h5,h6,h7,cond_true,cond_false] <;> rfl
  refine IF (fun h8=>?_) fun h8=>?_;(try simp only [bsimp] at h8);refine Zj (Zm (Zq O (Zq O (Zi O O O (fun _=>Zl (Zc O)) (Zi O O O (fun _=>Zmd (Zk O id) Xg) (Zo O (fun _=>Zz (Zc O) (Zk O id)) (Zq O (Zi O O O (fun _=>Zn Zg (Zc O)) (Ye O O O (Zt Zf (Zk O id) (fun _=>E.g0.at_ O)) (Xy O O O (fun _=>(Yl Wva Vi (Yr (Zk O id) (Xl)) O)) (fun hc=>Jcb _ _ _ D _ (hk.grow g) hr hln) (fun w97 g97=>?_)))))))))));have g:=g.trans g97;replace E:=E.grow g97;refine Zo O (fun _=>Zz (Zc O) (Zk O id)) (Yo O (Ze (kq (Xd (Vy O O ?_)))));refine ⟨Yxh ?_,g⟩;unfold Qq;simp only [anyK,h1,h2,h3,h5,h6,h7,h8,cond_true,cond_false] <;> rfl
  refine Zj (Zm (Zwa O O (Yo O (Ze (kq (Wm O (fun h9=>?_) (fun h9=>?_)))))));(try simp only [bsimp] at h9);refine Zj (Zm (Yj Yn O (Yq Yg O (E.g0.at_ O) (Qsd O O (Zq O (Zi O O O (fun _=>Zn Yn (Zc O)) (Ye O O O (Zt Yg (Zk O id) (fun _=>E.g0.at_ O)) (Zi O O O (fun _=>Yxc (Zk O id) Xg) (Zo O (fun _=>Wk (Zc O) (Zk O id)) (Zq O (Zi O O O (fun _=>Zl (Zc O)) (Zi O O O (fun _=>Zla (Zk O id) Xg) (Zo O (fun _=>Zz (Zc O) (Zk O id)) (Zq O (Zi O O O (fun _=>Zn Zg (Zc O)) (?_))))))))))))))));refine Ye O O O (Zt Zf (Zk O id) (fun _=>E.g0.at_ O)) (Zi O O O (fun _=>Yz Zd (Zk O id) Xg (fun hc=>by (have hz:=hc.2;first|(unfold lenK at hz;simp at hz;omega)|(simp at hz;omega))) (fun hc=>(h0x (by (have hz:=hc.2;first|(unfold lenK at hz;simp at hz;omega)|(simp at hz;omega)))).1)) (Ye O O O (Zy Zh (Zk O id) O (fun hc=>(h0x (by (have hz:=hc.2;first|(unfold lenK at hz;simp at hz;omega)|(simp at hz;omega)))).2.1.grow g)) (Xy O O O (fun _=>(Yl Jk Vi (Yr (Zk O id) (Xl)) O)) (fun hc=>(h0x (by (have hz:=hc.2;first|(unfold lenK at hz;simp at hz;omega)|(simp at hz;omega)))).2.2.2.ex _ _ D _ ((h0x (by (have hz:=hc.2;first|(unfold lenK at hz;simp at hz;omega)|(simp at hz;omega)))).2.2.1.grow g)) (fun w118 g118=>?_))));have g:=g.trans g118;replace E:=E.grow g118;refine RTN ?_;refine ⟨Yxh ?_,g⟩;unfold Qq;simp only [anyK,h1,h2,h3,h5,h6,h7,h8,h9,cond_true,cond_false] <;> rfl
  refine IF (fun h10=>?_) fun h10=>?_;(try simp only [bsimp] at h10);refine AU ?_;refine CP (Qhf _ _) (fun w124 g124=>?_);have g:=g.trans g124;replace E:=E.grow g124;refine AU ?_;refine CG (fun hc=>Jcb _ _ _ D _ (hk.grow g) hr hln) (fun w132 g132=>?_);have g:=g.trans g132;replace E:=E.grow g132;refine RTN ?_;refine ⟨Yxh ?_,g⟩;unfold Qq;simp only [anyK,h1,h2,h3,h5,h6,h7,h8,h9,h10,cond_true,cond_false] <;> rfl
  refine AU ?_;refine' OR [1,2,3,4,12] (fun hb11=>?y11) (kq ?n11)
  case y11 =>
   refine AU ?_;refine' OR [1,2,3,4,12] (fun hb12=>?y12) knr
   case y12 =>
    refine AU ?_;refine' OR [1,2,3,4,12] (fun hb13=>?y13) knr
    case y13 =>
     refine AU ?_;refine SK [134,1,2,3,4,12] ?_;exact Ze knr
  case n11 =>
   refine Wm O (fun h14=>?_) (fun h14=>?_);(try simp only [bsimp] at h14);refine Zj (Zm (Zq O (Zq O (Zi O O O (fun _=>Zl (Zc O)) (Zi O O O (fun _=>Zla (Zk O id) Xg) (Zo O (fun _=>Zz (Zc O) (Zk O id)) (Zq O (Zi O O O (fun _=>Zn Zg (Zc O)) (Ye O O O (Zt Zf (Zk O id) (fun _=>E.g0.at_ O)) (Zi O O O (fun _=>Yz Zd (Zk O id) Xg (fun hc=>by (have hz:=hc.2;first|(unfold lenK at hz;simp at hz;omega)|(simp at hz;omega))) (fun hc=>(h0x (by (have hz:=hc.2;first|(unfold lenK at hz;simp at hz;omega)|(simp at hz;omega)))).1)) (Ye O O O (Zy Zh (Zk O id) O (fun hc=>(h0x (by (have hz:=hc.2;first|(unfold lenK at hz;simp at hz;omega)|(simp at hz;omega)))).2.1.grow g)) (Xy O O O (fun _=>(Yl Jk Vi (Yr (Zk O id) (Xl)) O)) (fun hc=>(h0x (by (have hz:=hc.2;first|(unfold lenK at hz;simp at hz;omega)|(simp at hz;omega)))).2.2.2.ex _ _ D _ ((h0x (by (have hz:=hc.2;first|(unfold lenK at hz;simp at hz;omega)|(simp at hz;omega)))).2.2.1.grow g)) (fun w149 g149=>?_)))))))))))));have g:=g.trans g149;replace E:=E.grow g149;refine RTN ?_;refine ⟨Yxh ?_,g⟩;unfold Qq;simp only [anyK,h1,h2,h3,h5,h6,h7,h8,h9,h10,h14,cond_true,cond_false] <;> rfl
   refine Zj (Zm (Zwa O O (Yo O (Ze (kq (Wm O (fun h15=>?_) (fun h15=>?_)))))));(try simp only [bsimp] at h15);refine Zj (Zm (Zq O (Zq O (Zi O O O (fun _=>Zl (Zc O)) (Zi O O O (fun _=>Zla (Zk O id) Xg) (Zo O (fun _=>Zz (Zc O) (Zk O id)) (Zq O (Zi O O O (fun _=>Zn Zg (Zc O)) (Ye O O O (Zt Zf (Zk O id) (fun _=>E.g0.at_ O)) (Zi O O O (fun _=>Yz Zd (Zk O id) Xg (fun hc=>by (have hz:=hc.2;first|(unfold lenK at hz;simp at hz;omega)|(simp at hz;omega))) (fun hc=>(h0x (by (have hz:=hc.2;first|(unfold lenK at hz;simp at hz;omega)|(simp at hz;omega)))).1)) (Ye O O O (Zy Zh (Zk O id) O (fun hc=>(h0x (by (have hz:=hc.2;first|(unfold lenK at hz;simp at hz;omega)|(simp at hz;omega)))).2.1.grow g)) (Xy O O O (fun _=>(Yl Yga Vi (Yr (Zk O id) (Xl)) O)) (fun hc=>(h0x (by (have hz:=hc.2;first|(unfold lenK at hz;simp at hz;omega)|(simp at hz;omega)))).2.2.2.bl _ _ D _ ((h0x (by (have hz:=hc.2;first|(unfold lenK at hz;simp at hz;omega)|(simp at hz;omega)))).2.2.1.grow g)) (fun w163 g163=>?_)))))))))))));have g:=g.trans g163;replace E:=E.grow g163;refine RTN ?_;refine ⟨Yxh ?_,g⟩;unfold Qq;simp only [anyK,h1,h2,h3,h5,h6,h7,h8,h9,h10,h14,h15,cond_true,cond_false] <;> rfl
   refine RTN ?_;refine ⟨Yxh ?_,g⟩;unfold Qq;simp only [anyK,h1,h2,h3,h5,h6,h7,h8,h9,h10,h14,h15,cond_true,cond_false] <;> rfl
theorem Xmd(t:Nd)(p:Option Addr)(c:Nat)(D:Nat→Prop)(w:World)(hk:Kd w D t.kids (.slice p t.kids.length c))(ih:Blw t)(hln:t.kids.length≤1000000):Ret PP Qcb #[ndV t (.slice p t.kids.length c)] w fun r w'=>r = .bool (blockB t)∧G w w':=by
 rw [← Qgc,Wzc];have g:=G.refl w;refine WK 26 [0] Vzc ?_;refine BM fun _ w1 _ _ g E=>?_;refine IF (fun h1=>?_) fun h1=>?_;replace h1:(!decide (t.kind=10) || !plainB t)=true:=h1;refine RTN ?_;refine ⟨Yxh ?_,g⟩;rw [h1];rfl;replace h1:(!decide (t.kind=10) || !plainB t)=false:=h1;refine AU ?_;refine Zfa (fun (i:Nat) u1=>(i≤t.kids.length∧∀ j,(h:j<t.kids.length)→j<i→stmtB t.kids[j]=true)∧G w1 u1) [(1,True,_)] (fun (i:Nat)=>[(3,True,.int .i64 i)]) (fun (i:Nat)=>t.kids.length-i) (0) ⟨⟨Nat.zero_le _,fun j _ hj=>absurd hj (Nat.not_lt_zero j)⟩,G.refl _⟩ (Za O (Za O (Zp _))) ?_;rintro i u1 ⟨hI1,gl1⟩;have g:=g.trans gl1;replace E:=E.grow gl1;refine IF (fun h2=>?_) fun h2=>?_;replace h2:i<t.kids.length:=by simp only [decide_eq_true_eq] at h2;omega
 obtain ⟨hpe,p2,c2,hcell,hkid⟩:=Yk hk h2;have hr:=ih.kid h2;refine AU ?_;refine CP (hr.st _ _ D _ (hkid.grow g)) (fun w24 g24=>?_);have g:=g.trans g24;have gl1:=gl1.trans (g24);replace E:=E.grow g24;refine IF (fun h3=>?_) fun h3=>?_;(try simp only [bsimp] at h3);refine RTN ?_;refine ⟨Yxh ?_,g⟩;rw [h1,cond_false,eq_comm,List.all_eq_false];exact ⟨_,List.getElem_mem h2,by rw [← Wg h2];simpa using h3⟩;refine AU ?_;refine SK [3,1] ?_;refine Ze (fun a ha=>?_);refine ⟨i+1,ha,⟨⟨h2,fun j h hj=>?_⟩,gl1⟩,by omega⟩;by_cases e:j=i;subst e;rw [← Wg h2];simpa using h3;exact hI1.2 j h (by omega);refine RTN ?_;refine ⟨Yxh ?_,g⟩;rw [h1,cond_false,eq_comm,List.all_eq_true];intro x hx;obtain ⟨j,hj,rfl⟩:=List.getElem_of_mem hx;exact hI1.2 j hj (by simp only [decide_eq_false_iff_not] at h2;omega)
theorem Zrf(t:Nd)(p:Option Addr)(c:Nat)(D:Nat→Prop)(w:World)(hk:Kd w D t.kids (.slice p t.kids.length c))(ih:Blw t):Ret PP Uzc #[ndV t (.slice p t.kids.length c)] w fun r w'=>r = .bool (ifB t)∧G w w':=by
 rw [← Wde,Zqf];have g:=G.refl w;refine Jx (m:=46) Vld O O [(0,True,_)] (Za O (Zp _)) ?_;refine Zj (Zm (BM fun _ _ _ _ g E=>?_));refine Yo O (Ze (kq (Zj (Zj (Zm (Yj Xm O (Yq Yd O (E.g0.at_ O) (Zud O O (Zq O (Zi O O O (fun _=>Zn Yn (Zc O)) (Ye O O O (Zt Yg (Zk O id) (fun _=>E.g0.at_ O)) (Zi O O O (fun _=>Qod (Zk O id) Xg) (Zo O (fun _=>Wk (Zc O) (Zk O id)) (Zq O (Zi O O O (fun _=>Zn Zg (Zc O)) (Ye O O O (Zt Zf (Zk O id) (fun _=>E.g0.at_ O)) (?_)))))))))))))))));refine Zi O O O (fun _=>Vha Zd (Zk O id)) (Zi O O O (fun _=>Uwc (Zk O id) Xg) (Zo O (fun _=>Wk (Zc O) (Zk O id)) (Ze (kq (Wm O (fun h1=>?_) (fun h1=>?_))))));replace h1:((!decide (t.kind=18) || !plainB t) || !lenK t 3)=true:=h1;refine Zj (Zm (Yo O (Ze (kq (Xd (Vy O O ?_))))));refine ⟨Yxh ?_,g⟩;rw [h1];rfl;replace h1:((!decide (t.kind=18) || !plainB t) || !lenK t 3)=false:=h1;have hl3:t.kids.length=3:=by simp only [lenK,Bool.or_eq_false_iff,Bool.not_eq_false',decide_eq_true_eq] at h1;omega
 obtain ⟨hpe,p0,c0,hcell0,hkid0⟩:=Yk hk (i:=0) (by omega);obtain ⟨_,p1,c1,hcell1,hkid1⟩:=Yk hk (i:=1) (by omega);obtain ⟨_,p2,c2,hcell2,hkid2⟩:=Yk hk (i:=2) (by omega);have hr0:=ih.kid (i:=0) (by omega);have hr1:=ih.kid (i:=1) (by omega);have hr2:=ih.kid (i:=2) (by omega);refine Ya (kq (Zj (Zm (Yj Zg O (Yq Zf O (E.g0.at_ O) (Jm Zd O O (by omega) hpe (Vf Zh O O (hcell2.grow g) (AN fun _ _ _ _ g E=>?_))))))));refine AS fun _ _ _ g E=>?_;refine Ze (kq (Zj (Zm (Yj Zg O (Yq Zf O (E.g1.at_ O) (Jm Zd O O (by omega) hpe (Vf Zh O O (hcell0.grow g) (Vh O (Yl Jk Vi (aqc O aq0) O) (hr0.ex _ _ D _ (hkid0.grow g)) (fun w26 g26=>?_)))))))));have g:=g.trans g26;replace E:=E.grow g26;refine Zq O (Zi O O O (fun _=>Zn Zg (Zc O)) (Ye O O O (Zt Zf (Zk O id) (fun _=>E.g1.at_ O)) (Zi O O O (fun _=>Yz Zd (Zk O id) Xg (fun _=>by omega) (fun _=>hpe)) (Ye O O O (Zy Zh (Zk O id) O (fun _=>hcell1.grow g)) (Xy O O O (fun _=>(Yl Yga Vi (Yr (Zk O id) (Xl)) O)) (fun hc=>hr1.bl _ _ D _ (hkid1.grow g)) (fun w32 g32=>?_))))));have g:=g.trans g32;replace E:=E.grow g32;refine AU ?_;refine CG (fun hc=>hr2.bl _ _ D _ (hkid2.grow g)) (fun w36 g36=>?_);have g:=g.trans g36;replace E:=E.grow g36;refine AU ?_;refine CG (fun hc=>hr2.fi _ _ D _ (hkid2.grow g)) (fun w39 g39=>?_);have g:=g.trans g39;replace E:=E.grow g39;refine AU ?_;refine CG (fun hc=>Jzb _ _ _ _) (fun w43 g43=>?_);have g:=g.trans g43;replace E:=E.grow g43;refine RTN ?_;refine ⟨Yxh ?_,g⟩;rw [h1];rfl
theorem Wee(t:Nd)(p:Option Addr)(c:Nat)(D:Nat→Prop)(w:World)(hk:Kd w D t.kids (.slice p t.kids.length c))(ih:Blw t):Ret PP Jjd #[ndV t (.slice p t.kids.length c)] w fun r w'=>r = .bool (varB t)∧G w w':=by
 rw [← Upd,refVar];have g:=G.refl w;obtain ⟨p0,c0,h0x⟩:=Yvc hk ih 0;obtain ⟨p1,c1,h1x⟩:=Yvc hk ih 1;refine WK 38 [0] Yhd ?_;refine BM fun _ _ _ _ g E=>?_;refine AU ?_;refine CG (fun hc=>Vwa _ _) (fun w9 g9=>?_);have g:=g.trans g9;replace E:=E.grow g9;refine AU ?_;refine Zi O O O (fun _=>Yz Zd (Zk O id) Xg (fun hc=>by (have hz:=hc.2;first|(unfold lenK at hz;simp at hz;omega)|(simp at hz;omega))) (fun hc=>(h0x (by (have hz:=hc.2;first|(unfold lenK at hz;simp at hz;omega)|(simp at hz;omega)))).1)) (Ye O O O (Zy Zh (Zk O id) O (fun hc=>(h0x (by (have hz:=hc.2;first|(unfold lenK at hz;simp at hz;omega)|(simp at hz;omega)))).2.1.grow g)) (CG (fun hc=>Jwb _ _ _ _) (fun w22 g22=>?_)));have g:=g.trans g22;replace E:=E.grow g22;refine Zo O (fun _=>Zz (Zc O) (Zk O id)) (Zq O (Zi O O O (fun _=>Zn Zg (Zc O)) (Ye O O O (Zt Zf (Zk O id) (fun _=>E.g0.at_ O)) (Zi O O O (fun _=>Yz Zd (Zk O id) Xg (fun hc=>by (have hz:=hc.2;first|(unfold lenK at hz;simp at hz;omega)|(simp at hz;omega))) (fun hc=>(h1x (by (have hz:=hc.2;first|(unfold lenK at hz;simp at hz;omega)|(simp at hz;omega)))).1)) (Ye O O O (Zy Zh (Zk O id) O (fun hc=>(h1x (by (have hz:=hc.2;first|(unfold lenK at hz;simp at hz;omega)|(simp at hz;omega)))).2.1.grow g)) (Xy O O O (fun _=>(Yl Ydb Vi (Yr (Zk O id) (Xl)) O)) (fun hc=>Jzb _ _ _ _) (fun w29 g29=>?_)))))));have g:=g.trans g29;replace E:=E.grow g29
 refine Zi O O O (fun _=>Zl (Zk O id)) (Zi O O O (fun _=>Zn Zg (Zc O)) (Ye O O O (Zt Zf (Zk O id) (fun _=>E.g0.at_ O)) (Zi O O O (fun _=>Yz Zd (Zk O id) Xg (fun hc=>by (have hz:=hc.1.2;first|(unfold lenK at hz;simp at hz;omega)|(simp at hz;omega))) (fun hc=>(h1x (by (have hz:=hc.1.2;first|(unfold lenK at hz;simp at hz;omega)|(simp at hz;omega)))).1)) (Ye O O O (Zy Zh (Zk O id) O (fun hc=>(h1x (by (have hz:=hc.1.2;first|(unfold lenK at hz;simp at hz;omega)|(simp at hz;omega)))).2.1.grow g)) (Xy O O O (fun _=>(Yl Jk Vi (Yr (Zk O id) (Xl)) O)) (fun hc=>(h1x (by (have hz:=hc.1.2;first|(unfold lenK at hz;simp at hz;omega)|(simp at hz;omega)))).2.2.2.ex _ _ D _ ((h1x (by (have hz:=hc.1.2;first|(unfold lenK at hz;simp at hz;omega)|(simp at hz;omega)))).2.2.1.grow g)) (fun w35 g35=>?_))))));have g:=g.trans g35;replace E:=E.grow g35;refine RTN ?_;exact ⟨rfl,g⟩
theorem Ju{t:Nd}{i:Nat}(h:i<t.kids.length):count (Zb t i)<count t:=by
 rw [Wg h];have:=Ji (List.getElem_mem h);omega
theorem Uqd{t:Nd}(ih:Blw t){i:Nat}(h:i<t.kids.length):Blw (Zb t i):=fun k hk=>ih k (Nat.lt_trans hk (Ju h))
theorem Urd(t:Nd):(!Qpa t)=((((!decide (t.kind=23) || !plainB t) || !lenK t 2) || !commF (Zb t 0)) || !blockB (Zb t 1)):=by
 rw [Qpa];cases decide (t.kind=23) <;> cases plainB t <;> cases lenK t 2 <;> cases commF (Zb t 0) <;> cases blockB (Zb t 1) <;> rfl
theorem Wfe(t:Nd)(p:Option Addr)(c:Nat)(D:Nat→Prop)(w:World)(hk:Kd w D t.kids (.slice p t.kids.length c))(ih:Blw t)(hln:t.kids.length≤1000000):Ret PP Qyc #[ndV t (.slice p t.kids.length c)] w fun r w'=>r = .bool (refSelect t)∧G w w':=by
 have g:=G.refl w;refine WK 50 [0] Wmc ?_;refine Zj (Zm (BM fun _ w1 _ _ g E=>?_));refine Yo O (Ze (kq (Zj (Zj (Zm (Yo O (Ze (kq (Yv (Zfa (fun (i:Nat) u1=>(i≤t.kids.length∧∀ j,(h:j<t.kids.length)→j<i→Qpa t.kids[j]=true)∧G w1 u1) [(1,True,_)] (fun (i:Nat)=>[(3,True,.int .i64 i)]) (fun (i:Nat)=>t.kids.length-i) (0) ⟨⟨Nat.zero_le _,fun j _ hj=>absurd hj (Nat.not_lt_zero j)⟩,G.refl _⟩ (Za O (Za O (Zp _))) ?_))))))))));rintro i u1 ⟨hI1,gl1⟩;have g:=g.trans gl1;replace E:=E.grow gl1;refine Zj (Zj (Zm (Zq O (Yj Zg O (Yq Zf O (E.g0.at_ O) (Xla Zd O (Xka O O (Ze (kq (Wm O (fun h1=>?_) (fun h1=>?_)))))))))));replace h1:i<t.kids.length:=by simp only [decide_eq_true_eq] at h1;omega
 obtain ⟨hpe,p2,c2,hcell,hkid⟩:=Yk hk h1;obtain ⟨p3,c3,h0x⟩:=Yvc hkid (Uqd ih h1) 0;obtain ⟨p4,c4,h1x⟩:=Yvc hkid (Uqd ih h1) 1;refine Ya (kq (Zj (Yv (Zj (Zm (Yj Zg O (Yq Zf O (E.g0.at_ O) (Zq O (Jm Zd O O (by omega) hpe (Vf Zh O O (hcell.grow g) (AN fun _ _ ga _ g E=>?_)))))))))));have l4_gl1:=ga.ge gl1;have gl1:=gl1.trans (ga.g);refine AS fun _ ga _ g E=>?_;first|replace gl1:=Yb gl1 ga (by omega)|clear gl1|skip
 refine Ze (kq (Zj (Zm (Yj Xm O (Yq Yd O (E.g0.at_ O) (Zud O O (Zq O (Zi O O O (fun _=>Zn Yn (Zc O)) (Ye O O O (Zt Yg (Zk O id) (fun _=>E.g0.at_ O)) (Zi O O O (fun _=>Qod (Zk O id) Xg) (Zo O (fun _=>Wk (Zc O) (Zk O id)) (Zq O (Zi O O O (fun _=>Zn Zg (Zc O)) (Ye O O O (Zt Zf (Zk O id) (fun _=>E.g0.at_ O)) (Zi O O O (fun _=>Vha Zd (Zk O id)) (Zi O O O (fun _=>Uwc (Zk O id) Xg) (?_)))))))))))))))));refine Zo O (fun _=>Wk (Zc O) (Zk O id)) (Zq O (Zi O O O (fun _=>Zn Zg (Zc O)) (Ye O O O (Zt Zf (Zk O id) (fun _=>E.g0.at_ O)) (Zi O O O (fun _=>Yz Zd (Zk O id) Xg (fun hc=>by (have hz:=hc.2;first|(unfold lenK at hz;simp at hz;omega)|(simp at hz;omega))) (fun hc=>(h0x (by (have hz:=hc.2;first|(unfold lenK at hz;simp at hz;omega)|(simp at hz;omega)))).1)) (Ye O O O (Zy Zh (Zk O id) O (fun hc=>(h0x (by (have hz:=hc.2;first|(unfold lenK at hz;simp at hz;omega)|(simp at hz;omega)))).2.1.grow g)) (Xy O O O (fun _=>(Yl Vod Vi (Yr (Zk O id) (Xl)) O)) (fun hc=>(h0x (by (have hz:=hc.2;first|(unfold lenK at hz;simp at hz;omega)|(simp at hz;omega)))).2.2.2.cm _ _ D _ ((h0x (by (have hz:=hc.2;first|(unfold lenK at hz;simp at hz;omega)|(simp at hz;omega)))).2.2.1.grow g)) (fun w36 g36=>?_)))))));have g:=g.trans g36;have gl1:=gl1.trans (g36);replace E:=E.grow g36
 refine Zi O O O (fun _=>Xwb (Zk O id)) (Zo O (fun _=>Wk (Zc O) (Zk O id)) (Zq O (Zi O O O (fun _=>Zn Zg (Zc O)) (Ye O O O (Zt Zf (Zk O id) (fun _=>E.g0.at_ O)) (Zi O O O (fun _=>Yz Zd (Zk O id) Xg (fun hc=>by (have hz:=hc.2;first|(unfold lenK at hz;simp at hz;omega)|(simp at hz;omega))) (fun hc=>(h1x (by (have hz:=hc.2;first|(unfold lenK at hz;simp at hz;omega)|(simp at hz;omega)))).1)) (Ye O O O (Zy Zh (Zk O id) O (fun hc=>(h1x (by (have hz:=hc.2;first|(unfold lenK at hz;simp at hz;omega)|(simp at hz;omega)))).2.1.grow g)) (Xy O O O (fun _=>(Yl Yga Vi (Yr (Zk O id) (Xl)) O)) (fun hc=>(h1x (by (have hz:=hc.2;first|(unfold lenK at hz;simp at hz;omega)|(simp at hz;omega)))).2.2.2.bl _ _ D _ ((h1x (by (have hz:=hc.2;first|(unfold lenK at hz;simp at hz;omega)|(simp at hz;omega)))).2.2.1.grow g)) (fun w44 g44=>?_))))))));have g:=g.trans g44;have gl1:=gl1.trans (g44);replace E:=E.grow g44;refine IF (fun h2=>?_) fun h2=>?_;replace h2:Qpa (Zb t i)=false:=by simpa using (Urd _).trans h2
 refine RTN ?_;refine ⟨Yxh ?_,g⟩;rw [eq_comm,refSelect,show t.kids.all Qpa=false from List.all_eq_false.2 ⟨_,List.getElem_mem h1,by rw [← Wg h1,h2];simp⟩];rfl;replace h2:Qpa (Zb t i)=true:=by simpa using (Urd _).trans h2
 refine AU ?_;refine SK [3,1] ?_;refine Ze (fun a ha=>?_);refine ⟨i+1,ha,⟨⟨h1,fun j h hj=>?_⟩,gl1⟩,by omega⟩;by_cases e:j=i;subst e;rw [← Wg h1];exact h2;exact hI1.2 j h (by omega);refine RTN ?_;refine ⟨Yxh ?_,g⟩
 rw [eq_comm,refSelect,show t.kids.all Qpa=true from List.all_eq_true.2 fun x hx=>by
  obtain ⟨j,hj,rfl⟩:=List.getElem_of_mem hx;exact hI1.2 j hj (by simp only [decide_eq_false_iff_not] at h1;omega)];rfl
theorem Xnb(t:Nd)(p:Option Addr)(c:Nat)(D:Nat→Prop)(w:World)(hk:Kd w D t.kids (.slice p t.kids.length c))(ih:Blw t)(hln:t.kids.length≤1000000):Ret PP Yic #[ndV t (.slice p t.kids.length c)] w fun r w'=>r = .bool (stmtB t)∧G w w':=by
 rw [← Qy];have g:=G.refl w;obtain ⟨p0,c0,h0x⟩:=Yvc hk ih 0;obtain ⟨p1,c1,h1x⟩:=Yvc hk ih 1;have hr:∀ k∈t.kids,ROk k:=fun k hk=>ih k (Ji hk);refine Jx (m:=149) Qwc O O [(0,True,_)] (Za O (Zp _)) ?_;refine Zj (Zm (BM fun _ _ _ _ g E=>?_));refine Yo O (Ze (kq (Zj (Zm (Yj Zg O (Yq Zf O (E.g0.at_ O) (Xla Zd O (Yo O (Ze (kq (Zj (Zm (Yj Yn O (Yq Yg O (E.g0.at_ O) (Qsd O O (Yo O (Ze (kq (?_)))))))))))))))))));refine Zj (Zj (Zm (Yj Xm O (Yq Yd O (E.g0.at_ O) (Ze (kq (Yv (Zj (Zm (Zwa O O (Yo O (Ze (kq (Wm O (fun h1=>?_) (fun h1=>?_)))))))))))))));(try simp only [bsimp] at h1);refine Zj (Zm (Vf Zh O O E.g0.row (Vh O (Yl Jkd Vi (aqc O aq0) O) (Wee t _ _ D _ (hk.grow g) ih) (fun w16 g16=>?_))));have g:=g.trans g16;replace E:=E.grow g16;refine Yo O (Ze (kq (Xd (Vy O O ?_))));refine ⟨Yxh ?_,g⟩;unfold refStmt;simp only [anyK,h1,cond_true,cond_false] <;> rfl
 refine Zj (Zm (Zwa O O (Yo O (Ze (kq (Wm O (fun h2=>?_) (fun h2=>?_)))))));(try simp only [bsimp] at h2);refine Zj (Zm (Vf Zh O O E.g0.row (Vh O (Yl Yga Vi (aqc O aq0) O) (Xmd t _ _ D _ (hk.grow g) ih hln) (fun w20 g20=>?_))));have g:=g.trans g20;replace E:=E.grow g20;refine Yo O (Ze (kq (Xd (Vy O O ?_))));refine ⟨Yxh ?_,g⟩;unfold refStmt;simp only [anyK,h1,h2,cond_true,cond_false] <;> rfl
 refine Zj (Zm (Zwa O O (Yo O (Ze (kq (Wm O (fun h3=>?_) (fun h3=>?_)))))));(try simp only [bsimp] at h3);refine Zj (Zm (Vf Zh O O E.g0.row (Vh O (Yl Xke Vi (aqc O aq0) O) (Zrf t _ _ D _ (hk.grow g) ih) (fun w24 g24=>?_))));have g:=g.trans g24;replace E:=E.grow g24;refine Yo O (Ze (kq (Xd (Vy O O ?_))));refine ⟨Yxh ?_,g⟩;unfold refStmt;simp only [anyK,h1,h2,h3,cond_true,cond_false] <;> rfl
 refine Zj (Zm (Zwa O O (Yo O (Ze (kq (Wm O (fun h4=>?_) (fun h4=>?_)))))));(try simp only [bsimp] at h4);refine Zj (Zm (Vf Zh O O E.g0.row (Vh O (Yl Qzc Vi (aqc O aq0) O) (Wfe t _ _ D _ (hk.grow g) ih hln) (fun w28 g28=>?_))));have g:=g.trans g28;replace E:=E.grow g28;refine Yo O (Ze (kq (Xd (Vy O O ?_))));refine ⟨Yxh ?_,g⟩;rw [Vac (by simpa using h4)];unfold refStmt;simp only [anyK,h1,h2,h3,h4,cond_true,cond_false] <;> rfl
 refine Zj (Zm (Zwa O O (Yo O (Ze (kq (Wm O (fun h5=>?_) (fun h5=>?_)))))));(try simp only [bsimp] at h5);refine Zj (Zm (Yj Yn O (Yq Yg O (E.g0.at_ O) (Vh O (Yl Zob Vi (aqc O aq0) O) (Vwa _ _) (fun w33 g33=>?_)))));have g:=g.trans g33;replace E:=E.grow g33;refine Zq O (Zi O O O (fun _=>Zl (Zc O)) (Zi O O O (fun _=>Zla (Zk O id) Xg) (Zo O (fun _=>Zz (Zc O) (Zk O id)) (Zq O (Zi O O O (fun _=>Zn Zg (Zc O)) (Ye O O O (Zt Zf (Zk O id) (fun _=>E.g0.at_ O)) (Zi O O O (fun _=>Yz Zd (Zk O id) Xg (fun hc=>by (have hz:=hc.2;first|(unfold lenK at hz;simp at hz;omega)|(simp at hz;omega))) (fun hc=>(h0x (by (have hz:=hc.2;first|(unfold lenK at hz;simp at hz;omega)|(simp at hz;omega)))).1)) (Ye O O O (Zy Zh (Zk O id) O (fun hc=>(h0x (by (have hz:=hc.2;first|(unfold lenK at hz;simp at hz;omega)|(simp at hz;omega)))).2.1.grow g)) (Xy O O O (fun _=>(Yl Jk Vi (Yr (Zk O id) (Xl)) O)) (fun hc=>(h0x (by (have hz:=hc.2;first|(unfold lenK at hz;simp at hz;omega)|(simp at hz;omega)))).2.2.2.ex _ _ D _ ((h0x (by (have hz:=hc.2;first|(unfold lenK at hz;simp at hz;omega)|(simp at hz;omega)))).2.2.1.grow g)) (fun w43 g43=>?_))))))))));have g:=g.trans g43;replace E:=E.grow g43;refine Zo O (fun _=>Zz (Zc O) (Zk O id)) (Yo O (Ze (kq (Xd (Vy O O ?_)))));refine ⟨Yxh ?_,g⟩;unfold refStmt;simp only [anyK,h1,h2,h3,h4,h5,cond_true,cond_false] <;> rfl
 refine Zj (Zj (Zm (Zwa O O (Yo O (Ze (kq (?_)))))));refine' Vxd [(1,_,_),(2,_,_),(3,_,_),(4,_,_),(12,_,_)] (Za O (Za O (Za O (Za O (Za O (Za O (Zp _))))))) O (fun hb6=>?y6) (kq ?n6)
 case y6 =>
  refine Zm (Zwa O O (Yo O (Vc [(45,_,_),(1,_,_),(2,_,_),(3,_,_),(4,_,_),(12,_,_)] (Za O (Za O (Za O (Za O (Za O (Za O (Zp _))))))) (?_))));exact Ze knr
 case n6 =>
  refine Wm O (fun h7=>?_) (fun h7=>?_);(try simp only [bsimp] at h7);refine Zj (Zm (Zq O (Zq O (Zi O O O (fun _=>Zl (Zc O)) (Zi O O O (fun _=>Zla (Zk O id) Xg) (Zo O (fun _=>Zz (Zc O) (Zk O id)) (Zq O (Zi O O O (fun _=>Zn Zg (Zc O)) (Ye O O O (Zt Zf (Zk O id) (fun _=>E.g0.at_ O)) (Xy O O O (fun _=>(Yl Wva Vi (Yr (Zk O id) (Xl)) O)) (fun hc=>Jcb _ _ _ D _ (hk.grow g) hr hln) (fun w56 g56=>?_)))))))))));have g:=g.trans g56;replace E:=E.grow g56;refine Zo O (fun _=>Zz (Zc O) (Zk O id)) (Yo O (Ze (kq (Xd (Vy O O ?_)))));refine ⟨Yxh ?_,g⟩;unfold refStmt;simp only [anyK,h1,h2,h3,h4,h5,h7,cond_true,cond_false] <;> rfl
  refine Zj (Zm (Zwa O O (Yo O (Ze (kq (Wm O (fun h8=>?_) (fun h8=>?_)))))));(try simp only [bsimp] at h8);refine Zj (Zm (Zq O (Zq O (Zi O O O (fun _=>Zl (Zc O)) (Zi O O O (fun _=>Zla (Zk O id) Xg) (Zo O (fun _=>Zz (Zc O) (Zk O id)) (Zq O (Zi O O O (fun _=>Zn Zg (Zc O)) (Ye O O O (Zt Zf (Zk O id) (fun _=>E.g0.at_ O)) (Zi O O O (fun _=>Yz Zd (Zk O id) Xg (fun hc=>by (have hz:=hc.2;first|(unfold lenK at hz;simp at hz;omega)|(simp at hz;omega))) (fun hc=>(h0x (by (have hz:=hc.2;first|(unfold lenK at hz;simp at hz;omega)|(simp at hz;omega)))).1)) (Ye O O O (Zy Zh (Zk O id) O (fun hc=>(h0x (by (have hz:=hc.2;first|(unfold lenK at hz;simp at hz;omega)|(simp at hz;omega)))).2.1.grow g)) (Xy O O O (fun _=>(Yl Qkb Vi (Yr (Zk O id) (Yr Xg (Xl))) O)) (fun hc=>Zle _ _ _ _ D _ ((h0x (by (have hz:=hc.2;first|(unfold lenK at hz;simp at hz;omega)|(simp at hz;omega)))).2.2.1.grow g) (h0x (by (have hz:=hc.2;first|(unfold lenK at hz;simp at hz;omega)|(simp at hz;omega)))).2.2.2) (fun w70 g70=>?_)))))))))))));have g:=g.trans g70;replace E:=E.grow g70
  refine Zi O O O (fun _=>Zl (Zk O id)) (Zi O O O (fun _=>Zn Zg (Zc O)) (Ye O O O (Zt Zf (Zk O id) (fun _=>E.g0.at_ O)) (Zi O O O (fun _=>Yz Zd (Zk O id) Xg (fun hc=>by (have hz:=hc.1.2;first|(unfold lenK at hz;simp at hz;omega)|(simp at hz;omega))) (fun hc=>(h0x (by (have hz:=hc.1.2;first|(unfold lenK at hz;simp at hz;omega)|(simp at hz;omega)))).1)) (Ye O O O (Zy Zh (Zk O id) O (fun hc=>(h0x (by (have hz:=hc.1.2;first|(unfold lenK at hz;simp at hz;omega)|(simp at hz;omega)))).2.1.grow g)) (Xy O O O (fun _=>(Yl Qkb Vi (Yr (Zk O id) (Yr Xg (Xl))) O)) (fun hc=>Zle _ _ _ _ D _ ((h0x (by (have hz:=hc.1.2;first|(unfold lenK at hz;simp at hz;omega)|(simp at hz;omega)))).2.2.1.grow g) (h0x (by (have hz:=hc.1.2;first|(unfold lenK at hz;simp at hz;omega)|(simp at hz;omega)))).2.2.2) (fun w76 g76=>?_))))));have g:=g.trans g76;replace E:=E.grow g76;refine Zi O O O (fun _=>Wk (Zk O id) (Zk O id)) (Zo O (fun _=>Zz (Zc O) (Zk O id)) (Yo O (Ze (kq (Xd (Vy O O ?_))))));refine ⟨Yxh ?_,g⟩;unfold refStmt;simp only [anyK,h1,h2,h3,h4,h5,h7,h8,cond_true,cond_false] <;> rfl
  refine Zj (Zj (Zm (Zwa O O (Yo O (Ze (kq (?_)))))));refine' Vxd [(1,_,_),(2,_,_),(3,_,_),(4,_,_),(12,_,_)] (Za O (Za O (Za O (Za O (Za O (Za O (Zp _))))))) O (fun hb9=>?y9) (kq ?n9)
  case y9 =>
   refine Zm (Zwa O O (Yo O (Vc [(79,_,_),(1,_,_),(2,_,_),(3,_,_),(4,_,_),(12,_,_)] (Za O (Za O (Za O (Za O (Za O (Za O (Zp _))))))) (?_))));exact Ze knr
  case n9 =>
   refine Wm O (fun h10=>?_) (fun h10=>?_);(try simp only [bsimp] at h10);refine Zj (Zm (Zq O (Zq O (Zi O O O (fun _=>Zl (Zc O)) (Zi O O O (fun _=>Zla (Zk O id) Xg) (Zo O (fun _=>Zz (Zc O) (Zk O id)) (Zq O (Zi O O O (fun _=>Zn Zg (Zc O)) (Ye O O O (Zt Zf (Zk O id) (fun _=>E.g0.at_ O)) (Zi O O O (fun _=>Yz Zd (Zk O id) Xg (fun hc=>by (have hz:=hc.2;first|(unfold lenK at hz;simp at hz;omega)|(simp at hz;omega))) (fun hc=>(h0x (by (have hz:=hc.2;first|(unfold lenK at hz;simp at hz;omega)|(simp at hz;omega)))).1)) (Ye O O O (Zy Zh (Zk O id) O (fun hc=>(h0x (by (have hz:=hc.2;first|(unfold lenK at hz;simp at hz;omega)|(simp at hz;omega)))).2.1.grow g)) (Xy O O O (fun _=>(Yl Qkb Vi (Yr (Zk O id) (Yr Xg (Xl))) O)) (fun hc=>Zle _ _ _ _ D _ ((h0x (by (have hz:=hc.2;first|(unfold lenK at hz;simp at hz;omega)|(simp at hz;omega)))).2.2.1.grow g) (h0x (by (have hz:=hc.2;first|(unfold lenK at hz;simp at hz;omega)|(simp at hz;omega)))).2.2.2) (fun w92 g92=>?_)))))))))))));have g:=g.trans g92;replace E:=E.grow g92;refine Zo O (fun _=>Zz (Zc O) (Zk O id)) (Yo O (Ze (kq (Xd (Vy O O ?_)))));refine ⟨Yxh ?_,g⟩;unfold refStmt;simp only [anyK,h1,h2,h3,h4,h5,h7,h8,h10,cond_true,cond_false] <;> rfl
   refine Zj (Zj (Zm (Zwa O O (Yo O (Ze (kq (?_)))))));refine' Vxd [(1,_,_),(2,_,_),(3,_,_),(4,_,_),(12,_,_)] (Za O (Za O (Za O (Za O (Za O (Za O (Zp _))))))) O (fun hb11=>?y11) (kq ?n11)
   case y11 =>
    refine Zm (Zwa O O (Yo O (Vc [(94,_,_),(1,_,_),(2,_,_),(3,_,_),(4,_,_),(12,_,_)] (Za O (Za O (Za O (Za O (Za O (Za O (Zp _))))))) (?_))));exact Ze knr
   case n11 =>
    refine Wm O (fun h12=>?_) (fun h12=>?_);(try simp only [bsimp] at h12);refine Zj (Zm (Zq O (Zq O (Zi O O O (fun _=>Zl (Zc O)) (Zi O O O (fun _=>Zla (Zk O id) Xg) (Zo O (fun _=>Zz (Zc O) (Zk O id)) (Zq O (Zi O O O (fun _=>Zn Zg (Zc O)) (Ye O O O (Zt Zf (Zk O id) (fun _=>E.g0.at_ O)) (Zi O O O (fun _=>Yz Zd (Zk O id) Xg (fun hc=>by (have hz:=hc.2;first|(unfold lenK at hz;simp at hz;omega)|(simp at hz;omega))) (fun hc=>(h0x (by (have hz:=hc.2;first|(unfold lenK at hz;simp at hz;omega)|(simp at hz;omega)))).1)) (Ye O O O (Zy Zh (Zk O id) O (fun hc=>(h0x (by (have hz:=hc.2;first|(unfold lenK at hz;simp at hz;omega)|(simp at hz;omega)))).2.1.grow g)) (Xy O O O (fun _=>(Yl Jk Vi (Yr (Zk O id) (Xl)) O)) (fun hc=>(h0x (by (have hz:=hc.2;first|(unfold lenK at hz;simp at hz;omega)|(simp at hz;omega)))).2.2.2.ex _ _ D _ ((h0x (by (have hz:=hc.2;first|(unfold lenK at hz;simp at hz;omega)|(simp at hz;omega)))).2.2.1.grow g)) (fun w107 g107=>?_)))))))))))));have g:=g.trans g107;replace E:=E.grow g107;refine Zo O (fun _=>Zz (Zc O) (Zk O id)) (Yo O (Ze (kq (Xd (Vy O O ?_)))));refine ⟨Yxh ?_,g⟩;unfold refStmt;simp only [anyK,h1,h2,h3,h4,h5,h7,h8,h10,h12,cond_true,cond_false] <;> rfl
    refine Zj (Zm (Zwa O O (Yo O (Ze (kq (Wm O (fun h13=>?_) (fun h13=>?_)))))));(try simp only [bsimp] at h13);refine Zj (Zm (Zq O (Zq O (Zi O O O (fun _=>Zl (Zc O)) (Zi O O O (fun _=>Qog (Zk O id) Xg) (Zo O (fun _=>Zz (Zc O) (Zk O id)) (Zq O (Zi O O O (fun _=>Zn Zg (Zc O)) (Ye O O O (Zt Zf (Zk O id) (fun _=>E.g0.at_ O)) (Xy O O O (fun _=>(Yl Wva Vi (Yr (Zk O id) (Xl)) O)) (fun hc=>Jcb _ _ _ D _ (hk.grow g) hr hln) (fun w119 g119=>?_)))))))))));have g:=g.trans g119;replace E:=E.grow g119;refine Zo O (fun _=>Zz (Zc O) (Zk O id)) (Yo O (Ze (kq (Xd (Vy O O ?_)))));refine ⟨Yxh ?_,g⟩;unfold refStmt;simp only [anyK,h1,h2,h3,h4,h5,h7,h8,h10,h12,h13,cond_true,cond_false] <;> rfl
    refine Zj (Zm (Zwa O O (Yo O (Ze (kq (Wm O (fun h14=>?_) (fun h14=>?_)))))));(try simp only [bsimp] at h14);refine Zj (Zm (Zq O (Zq O (Zi O O O (fun _=>Zl (Zc O)) (Zi O O O (fun _=>Zla (Zk O id) Xg) (Zo O (fun _=>Zz (Zc O) (Zk O id)) (Zq O (Zi O O O (fun _=>Zn Zg (Zc O)) (Ye O O O (Zt Zf (Zk O id) (fun _=>E.g0.at_ O)) (Zi O O O (fun _=>Yz Zd (Zk O id) Xg (fun hc=>by (have hz:=hc.2;first|(unfold lenK at hz;simp at hz;omega)|(simp at hz;omega))) (fun hc=>(h0x (by (have hz:=hc.2;first|(unfold lenK at hz;simp at hz;omega)|(simp at hz;omega)))).1)) (Ye O O O (Zy Zh (Zk O id) O (fun hc=>(h0x (by (have hz:=hc.2;first|(unfold lenK at hz;simp at hz;omega)|(simp at hz;omega)))).2.1.grow g)) (Xy O O O (fun _=>(Yl Ydb Vi (Yr (Zk O id) (Xl)) O)) (fun hc=>Jzb _ _ _ _) (fun w133 g133=>?_)))))))))))));have g:=g.trans g133;replace E:=E.grow g133;refine Zi O O O (fun _=>Zl (Zk O id)) (Zi O O O (fun _=>Zn Zg (Zc O)) (Ye O O O (Zt Zf (Zk O id) (fun _=>E.g0.at_ O)) (Zi O O O (fun _=>Yz Zd (Zk O id) Xg (fun hc=>by (have hz:=hc.1.2;first|(unfold lenK at hz;simp at hz;omega)|(simp at hz;omega))) (fun hc=>(h0x (by (have hz:=hc.1.2;first|(unfold lenK at hz;simp at hz;omega)|(simp at hz;omega)))).1)) (Ye O O O (Zy Zh (Zk O id) O (fun hc=>(h0x (by (have hz:=hc.1.2;first|(unfold lenK at hz;simp at hz;omega)|(simp at hz;omega)))).2.1.grow g)) (Xy O O O (fun _=>(Yl Jk Vi (Yr (Zk O id) (Xl)) O)) (fun hc=>(h0x (by (have hz:=hc.1.2;first|(unfold lenK at hz;simp at hz;omega)|(simp at hz;omega)))).2.2.2.ex _ _ D _ ((h0x (by (have hz:=hc.1.2;first|(unfold lenK at hz;simp at hz;omega)|(simp at hz;omega)))).2.2.1.grow g)) (fun w139 g139=>?_))))));have g:=g.trans g139
    replace E:=E.grow g139;refine Zi O O O (fun _=>Wk (Zk O id) (Zk O id)) (Zo O (fun _=>Zz (Zc O) (Zk O id)) (Zq O (Zi O O O (fun _=>Zn Zg (Zc O)) (Ye O O O (Zt Zf (Zk O id) (fun _=>E.g0.at_ O)) (Zi O O O (fun _=>Yz Zd (Zk O id) Xg (fun hc=>by (have hz:=hc.2;first|(unfold lenK at hz;simp at hz;omega)|(simp at hz;omega))) (fun hc=>(h1x (by (have hz:=hc.2;first|(unfold lenK at hz;simp at hz;omega)|(simp at hz;omega)))).1)) (Ye O O O (Zy Zh (Zk O id) O (fun hc=>(h1x (by (have hz:=hc.2;first|(unfold lenK at hz;simp at hz;omega)|(simp at hz;omega)))).2.1.grow g)) (Xy O O O (fun _=>(Yl Yga Vi (Yr (Zk O id) (Xl)) O)) (fun hc=>(h1x (by (have hz:=hc.2;first|(unfold lenK at hz;simp at hz;omega)|(simp at hz;omega)))).2.2.2.bl _ _ D _ ((h1x (by (have hz:=hc.2;first|(unfold lenK at hz;simp at hz;omega)|(simp at hz;omega)))).2.2.1.grow g)) (fun w147 g147=>?_))))))));have g:=g.trans g147;replace E:=E.grow g147;refine Zo O (fun _=>Zz (Zc O) (Zk O id)) (Yo O (Ze (kq (Xd (Vy O O ?_)))));refine ⟨Yxh ?_,g⟩;unfold refStmt;simp only [anyK,h1,h2,h3,h4,h5,h7,h8,h10,h12,h13,h14,cond_true,cond_false] <;> rfl
    refine Ya (kq (Zj (Zm (Yo O (Ze (kq (Xd (Vy O O ?_))))))));refine ⟨Yxh ?_,g⟩;unfold refStmt;simp only [anyK,h1,h2,h3,h4,h5,h7,h8,h10,h12,h13,h14,cond_true,cond_false] <;> rfl
theorem Xob{t:Nd}(h:t.kind=13∨t.kind=11)(hp:stmtB t=true):t.kids.length=1:=Uqc h (Bool.and_eq_true_iff.1 hp).2
theorem Xnd{t:Nd}(h:t.kind=12)(hp:stmtB t=true):t.kids.length=2:=Jga (.inl h) (Bool.and_eq_true_iff.1 hp).2
theorem Wcf(t:Nd)(p:Option Addr)(c:Nat)(D:Nat→Prop)(w:World)(hk:Kd w D t.kids (.slice p t.kids.length c))(ih:Blw t)(hln:t.kids.length≤1000000):Ret PP Ykc #[ndV t (.slice p t.kids.length c)] w fun r w'=>r = .bool (commF t)∧G w w':=by
 rw [← Xkd];have g:=G.refl w;obtain ⟨p0,c0,h0x⟩:=Yvc hk ih 0;obtain ⟨p1,c1,h1x⟩:=Yvc hk ih 1;refine WK 50 [0] Jdc ?_;refine BM fun _ _ _ _ g E=>?_;refine AU ?_;refine' OR [1,2,4] (fun hb1=>?y1) (kq ?n1)
 case y1 =>
  refine AU ?_;refine SK [5,1,2,4] ?_;exact Ze knr
 case n1 =>
  refine IF (fun h2=>?_) fun h2=>?_;(try simp only [bsimp] at h2);refine AU ?_;refine CP (Xnb t _ _ D _ (hk.grow g) ih hln) (fun w9 g9=>?_);have g:=g.trans g9;replace E:=E.grow g9;refine AU ?_;refine CG (fun hc=>Jzb _ _ _ _) (fun w12 g12=>?_);have g:=g.trans g12;replace E:=E.grow g12;refine RTN ?_;refine ⟨Yxh ?_,g⟩;unfold Zub;simp only [anyK,h2,cond_true,cond_false] <;> rfl
  refine IF (fun h3=>?_) fun h3=>?_;have hk3:t.kind=13:=by simpa using h3
  refine AU ?_;refine CP (Xnb t _ _ D _ (hk.grow g) ih hln) (fun w17 g17=>?_);have g:=g.trans g17;replace E:=E.grow g17;refine AU ?_;refine Zi O O O (fun _=>Yz Zd (Zk O id) Xg (fun hc=>by have:=Xob (.inl hk3) hc.2;omega) (fun hc=>(h0x (by have:=Xob (.inl hk3) hc.2;omega)).1)) ?_;refine AU ?_;refine Ye O O O (Zt Yd (Zk O id) (fun hc=>((h0x (by have:=Xob (.inl hk3) hc.2;omega)).2.1.grow g) 0 _ O)) ?_;refine RTN ?_;refine ⟨Yxh ?_,g⟩;unfold Zub;simp only [anyK,h2,h3,cond_true,cond_false] <;> rfl
  refine IF (fun h4=>?_) fun h4=>?_;have hk4:t.kind=12:=by simpa using h4
  refine AU ?_;refine CP (Xnb t _ _ D _ (hk.grow g) ih hln) (fun w29 g29=>?_);have g:=g.trans g29;replace E:=E.grow g29;refine AU ?_;refine Zi O O O (fun _=>Yz Zd (Zk O id) Xg (fun hc=>by have:=Xnd hk4 hc.2;omega) (fun hc=>(h1x (by have:=Xnd hk4 hc.2;omega)).1)) ?_;refine AU ?_;refine Ye O O O (Zt Yd (Zk O id) (fun hc=>((h1x (by have:=Xnd hk4 hc.2;omega)).2.1.grow g) 0 _ O)) ?_;refine RTN ?_;refine ⟨Yxh ?_,g⟩;unfold Zub;simp only [anyK,h2,h3,h4,cond_true,cond_false] <;> rfl
  refine IF (fun h5=>?_) fun h5=>?_;have hk5:t.kind=11:=by simpa using h5
  refine AU ?_;refine CP (Xnb t _ _ D _ (hk.grow g) ih hln) (fun w41 g41=>?_);have g:=g.trans g41;replace E:=E.grow g41;refine AU ?_;refine Zi O O O (fun _=>Yz Zd (Zk O id) Xg (fun hc=>by have:=Xob (.inr hk5) hc.2;omega) (fun hc=>(h0x (by have:=Xob (.inr hk5) hc.2;omega)).1)) ?_;refine AU ?_;refine Ye O O O (Zt Yd (Zk O id) (fun hc=>((h0x (by have:=Xob (.inr hk5) hc.2;omega)).2.1.grow g) 0 _ O)) ?_;refine RTN ?_;refine ⟨Yxh ?_,g⟩;unfold Zub;simp only [anyK,h2,h3,h4,h5,cond_true,cond_false] <;> rfl
  refine RTN ?_;refine ⟨Yxh ?_,g⟩;unfold Zub;simp only [anyK,h2,h3,h4,h5,cond_true,cond_false] <;> rfl
theorem Wsg:∀ n t,count t≤n→n≤1000000→ROk t:=by
 intro n
 induction n with
 | zero=>intro t h;have:=Un t;omega
 | succ n ihn =>
  intro t h hn;have ih:Blw t:=fun k hk=>ihn k (by omega) (by omega);have hln:t.kids.length≤1000000:=by have:=Up t;omega
  exact ⟨fun p c D w hk=>Wbf t p c D w hk ih hln,fun p c D w hk=>Xmd t p c D w hk ih hln,fun p c D w hk=>Xnb t p c D w hk ih hln,fun p c D w hk=>Zrf t p c D w hk ih,fun p c D w hk=>Wcf t p c D w hk ih hln⟩
theorem rok(t:Nd)(h:count t≤1000000):ROk t:=Wsg _ t h (Nat.le_refl _)
section
variable {P:Program} {n:Nat} {σ:List Ent} {c:Prop} {wb:World} {ty:TypeId}
theorem Jjg{x y:Operand}{k k':IntKind}{a b:Int}{ts:Array TypeId}(h:Ev n σ c x (.int k a))(h':Ev n σ c y (.int k' b)):Rd P n σ c wb (.call { callee:=.builtin .max,args:=#[x,y],argTypes:=ts }) ty (.int k (if b>a then b else a)):=.mk fun d pos after gd a ha hc w1 _=>by
 simp [execOp,resolve,invoke,builtin,h a ha hc,h' a ha hc,Builtin.max_,Builtin.max2]
end
theorem Wtg(a b:Nat):(if (b:Int)>a then (b:Int) else a)=((max a b:Nat):Int):=by split <;> omega
def fieldB(t:Nd):Bool:=decide (t.kind=3)&&permF t
theorem Xod(t:Nd):(!fieldB t)=(((!decide (t.kind=3) || !nameB t.text) || !lenK t 1) || !isTypeB (Zb t 0)):=by
 have e:fieldB t=(((decide (t.kind=3)&&nameB t.text)&&lenK t 1)&&isTypeB (Zb t 0)):=by
  rw [fieldB];by_cases h:t.kind=3;rw [Qx,locB,textB',Ysa,h,Wyb];exact congrArg (true && ·) (fl1 (X:=nameB t.text) (q:=typK)).symm |>.trans (by rfl)
  rw [Yvh h];rfl
 rw [e];cases decide (t.kind=3) <;> cases nameB t.text <;> cases lenK t 1 <;> cases isTypeB (Zb t 0) <;> rfl
def declB(t:Nd):Bool:=(memK [2,6,4] t.kind&&permF t) && !fileVarB t
def Wzb(t:Nd):Bool :=
 bif decide (t.kind=2) then nameB t.text&&t.kids.all fieldB
 else bif decide (t.kind=6) then varB t&&noneB (Zb t 1)
 else bif decide (t.kind=4) then
  bif !nameB t.text || !lenK t 3 then false else (((decide ((Zb t 0).kind=5)&&plainB (Zb t 0))&&(Zb t 0).kids.all fieldB)&&(noneB (Zb t 1) || isTypeB (Zb t 1)))&&blockB (Zb t 2)
 else false
theorem Usd{t:Nd}:(everyB t (memK [3])&&t.kids.all permF)=t.kids.all fieldB:=by
 rw [Xmb];congr 1;funext k;rw [Zna];rfl
theorem Wdf(t:Nd):((decide (t.kind=5)&&plainB t)&&t.kids.all fieldB)=(memK [5] t.kind&&permF t):=by
 rw [Zna];by_cases h:t.kind=5;rw [Qx t,locB,textB',Ysa,h,Bool.and_assoc];exact congrArg (true && ·) (by rw [← Usd,← Bool.and_assoc];rfl);rw [Yvh h];rfl
theorem Qqe(t:Nd):Wzb t=declB t:=by
 rw [Wzb,declB];by_cases h:t.kind=2;rw [Qx t,locB,textB',Ysa,fileVarB,h];refine Eq.trans (b:=(nameB t.text&&everyB t (memK [3]))&&t.kids.all permF) ?_ (Eq.trans (Bool.and_true _).symm O);rw [Bool.and_assoc (nameB t.text) (everyB t _),Usd];rfl;by_cases h1:t.kind=6;rw [varB,fileVarB,h1];refine Eq.trans (b:=permF t&&noneB (Zb t 1)) O (Eq.trans (b:=permF t && !(!lenK t 2 || !decide ((Zb t 1).kind=9))) ?_ O);rw [Zbb]
 cases hp:permF t with
 | false=>rfl
 | true =>
  have hl:=Jga (.inr h1) hp
  have hk:permF (Zb t 1)=true:=by
   rw [Qx,Bool.and_eq_true,List.all_eq_true] at hp;rw [Wg (by omega)];exact hp.2 _ (List.getElem_mem _)
  rw [hk,show lenK t 2=true by rw [lenK,decide_eq_true_eq];omega];cases decide ((Zb t 1).kind=9) <;> rfl
 by_cases h2:t.kind=4;rw [Wdf,Qx t,locB,textB',Ysa,fileVarB,h2];refine Eq.trans (b:=bif !nameB t.text || !lenK t 3 then false else ((memK [5] (Zb t 0).kind&&permF (Zb t 0))&&(noneB (Zb t 1) || isTypeB (Zb t 1)))&&blockB (Zb t 2)) O (Eq.trans (b:=(nameB t.text&&kidsB t [memK [5],fun k=>typK k || memK [9] k,memK [10]])&&t.kids.all permF) ?_ (Eq.trans (Bool.and_true _).symm O));rw [Zje,Bool.and_assoc (nameB t.text) (kidsB t _),Qpe,Zbb,Wyb,Zie,blockB,Zna 9,Zna 10];ac_rfl;simp only [memK,List.mem_cons,List.not_mem_nil,h,h1,h2,decide_false,or_false,cond_false,Bool.false_and]
theorem Utd(l:List Nd)(p:Option Addr)(c:Nat)(D:Nat→Prop)(w:World)(hk:Kd w D l (.slice p l.length c))(hln:l.length≤1000000):Ret PP Vgd #[.slice p l.length c] w fun r w'=>r = .bool (l.all fieldB)∧G w w':=by
 have g:=G.refl w;obtain ⟨p',c',hpe,_,hks⟩:=hk;injection hpe with hpe _ hce;subst hpe hce;refine Jx (m:=45) Qqc O O [(0,True,_)] (Za O (Zp _)) ?_;refine Zj (Zm (Yo O (Ze (kq (Zj (Zj (Zm (Yo O (Ze (kq (Yv (Zfa (fun (i:Nat) u1=>(i≤l.length∧∀ j,(h:j<l.length)→j<i→fieldB l[j]=true)∧G w u1) [(0,True,_)] (fun (i:Nat)=>[(3,True,.int .i64 i)]) (fun (i:Nat)=>l.length-i) (0) ⟨⟨Nat.zero_le _,fun j _ hj=>absurd hj (Nat.not_lt_zero j)⟩,G.refl _⟩ (Za O (Za O (Zp _))) ?_))))))))))));rintro i u1 ⟨hI1,gl1⟩;have g:=g.trans gl1;refine Zj (Zj (Zm (Zq O (Zq O (Xla Zd O (Xka O O (Ze (kq (Wm O (fun h1=>?_) (fun h1=>?_))))))))));replace h1:i<l.length:=by simp only [decide_eq_true_eq] at h1;omega
 obtain ⟨b,o,rfl,hD,xs,hR,hX⟩:=hks (by omega);obtain ⟨p',c',hcell,hkid⟩:=Xjb hR hX h1;obtain ⟨p3,c3,h0x⟩:=Zof hkid 0;refine Ya (kq (Zj (Yv (Zj (Zm (Zq O (Zq O (Zfb Zd O O (by omega) (Yj Xm O (Yq Yd O ((hcell.grow g) 0 _ O) (Zud O O (Zq O (Zi O O O (fun _=>Zl (Zc O)) (Zi O O O (fun _=>Zl (Zc O)) (Zi O O O (fun _=>Qea Zd (Zk O id) (Zk O id) (fun _=>by omega)) (Zi O O O (fun _=>Zn Yn (Zk O id)) (?_)))))))))))))))));refine Ye O O O (Zt Yg (Zk O id) (fun _=>(hcell.grow g) 1 _ O)) (Xy O O O (fun _=>(Yl Zob Vi (Yr (Zk O id) (Xl)) O)) (fun hc=>Vwa _ _) (fun w22 g22=>?_));have g:=g.trans g22;have gl1:=gl1.trans (g22);refine Zi O O O (fun _=>Xwb (Zk O id)) (Zo O (fun _=>Wk (Zc O) (Zk O id)) (Zq O (Zi O O O (fun _=>Zl (Zc O)) (Zi O O O (fun _=>Zl (Zc O)) (Zi O O O (fun _=>Qea Zd (Zk O id) (Zk O id) (fun _=>by omega)) (Zi O O O (fun _=>Zn Zg (Zk O id)) (Ye O O O (Zt Zf (Zk O id) (fun _=>(hcell.grow g) 4 _ O)) (Zi O O O (fun _=>Vha Zd (Zk O id)) (Zi O O O (fun _=>Uwc (Zk O id) Xg) (Zo O (fun _=>Wk (Zc O) (Zk O id)) (Zq O (Zi O O O (fun _=>Zl (Zc O)) (Zi O O O (fun _=>Zl (Zc O)) (Zi O O O (fun _=>Qea Zd (Zk O id) (Zk O id) (fun _=>by omega)) (Zi O O O (fun _=>Zn Zg (Zk O id)) (?_))))))))))))))))
 refine Ye O O O (Zt Zf (Zk O id) (fun _=>(hcell.grow g) 4 _ O)) (Zi O O O (fun _=>Yz Zd (Zk O id) Xg (fun hc=>by (have hz:=hc.2;first|(unfold lenK at hz;simp at hz;omega)|(simp at hz;omega))) (fun hc=>(h0x (by (have hz:=hc.2;first|(unfold lenK at hz;simp at hz;omega)|(simp at hz;omega)))).1)) (Ye O O O (Zy Zh (Zk O id) O (fun hc=>(h0x (by (have hz:=hc.2;first|(unfold lenK at hz;simp at hz;omega)|(simp at hz;omega)))).2.1.grow g)) (Xy O O O (fun _=>(Yl Yfc Vi (Yr (Zk O id) (Xl)) O)) (fun hc=>Jwb _ _ _ _) (fun w42 g42=>?_))));have g:=g.trans g42;have gl1:=gl1.trans (g42);refine IF (fun h2=>?_) fun h2=>?_;replace h2:fieldB l[i]=false:=by simpa using (Xod _).trans h2
 refine RTN ?_;refine ⟨Yxh ?_,g⟩;rw [eq_comm,List.all_eq_false];exact ⟨_,List.getElem_mem h1,by rw [h2];simp⟩;replace h2:fieldB l[i]=true:=by simpa using (Xod _).trans h2
 refine AU ?_;refine SK [3,0] ?_;refine Ze (fun a ha=>?_);refine ⟨i+1,ha,⟨⟨h1,fun j h hj=>?_⟩,gl1⟩,by omega⟩;by_cases e:j=i;subst e;exact h2;exact hI1.2 j h (by omega);refine RTN ?_;refine ⟨Yxh ?_,g⟩;rw [eq_comm,List.all_eq_true];intro x hx;obtain ⟨j,hj,rfl⟩:=List.getElem_of_mem hx;exact hI1.2 j hj (by simp only [decide_eq_false_iff_not] at h1;omega)
theorem Wef(t:Nd)(p:Option Addr)(c:Nat)(D:Nat→Prop)(w:World)(hk:Kd w D t.kids (.slice p t.kids.length c))(hcn:count t≤1000000):Ret PP Vbd #[ndV t (.slice p t.kids.length c)] w fun r w'=>r = .bool (declB t)∧G w w':=by
 rw [← Qqe];have g:=G.refl w;have hln:=Up t;have ih:Blw t:=fun k hk=>rok k (by omega);obtain ⟨p1,c1,h1x⟩:=Yvc hk ih 1;refine WK 77 [0] Qoc ?_;refine BM fun _ _ _ _ g E=>?_;refine IF (fun h1=>?_) fun h1=>?_;(try simp only [bsimp] at h1);refine AU ?_;refine CP (Vwa _ _) (fun w10 g10=>?_);have g:=g.trans g10;replace E:=E.grow g10;refine AU ?_;refine CG (fun hc=>Utd _ _ _ D _ (hk.grow g) (by omega)) (fun w14 g14=>?_);have g:=g.trans g14;replace E:=E.grow g14;refine RTN ?_;refine ⟨Yxh ?_,g⟩;unfold Wzb;simp only [h1,cond_true,cond_false] <;> rfl
 refine IF (fun h2=>?_) fun h2=>?_;have hk2:t.kind=6:=by simpa using h2
 refine AU ?_;refine CP (Wee t _ _ D _ (hk.grow g) ih) (fun w19 g19=>?_);have g:=g.trans g19;replace E:=E.grow g19;refine AU ?_;refine Zi O O O (fun _=>Yz Zd (Zk O id) Xg (fun hc=>by have:=Jga (.inr hk2) (Bool.and_eq_true_iff.1 hc.2).2;omega) (fun hc=>(h1x (by have:=Jga (.inr hk2) (Bool.and_eq_true_iff.1 hc.2).2;omega)).1)) (Ye O O O (Zy Zh (Zk O id) O (fun hc=>(h1x (by have:=Jga (.inr hk2) (Bool.and_eq_true_iff.1 hc.2).2;omega)).2.1.grow g)) (CG (fun hc=>Jzb _ _ _ _) (fun w25 g25=>?_)));have g:=g.trans g25;replace E:=E.grow g25;refine RTN ?_;refine ⟨Yxh ?_,g⟩;unfold Wzb;simp only [h1,h2,cond_true,cond_false] <;> rfl
 refine IF (fun h3=>?_) fun h3=>?_;(try simp only [bsimp] at h3);refine Zj (Zj (Zm (Yj Yn O (Yq Yg O (E.g0.at_ O) (Vh O (Yl Zob Vi (aqc O aq0) O) (Vwa _ _) (fun w31 g31=>?_))))));have g:=g.trans g31;replace E:=E.grow g31;refine Xtg O (Zq O (Zi O O O (fun _=>Zn Zg (Zc O)) (Ye O O O (Zt Zf (Zk O id) (fun _=>E.g0.at_ O)) (Zi O O O (fun _=>Vha Zd (Zk O id)) (Zi O O O (fun _=>Uwc (Zk O id) Xg) (Zo O (fun _=>Wk (Zc O) (Zk O id)) (Ze (kq (Wm O (fun h4=>?_) (fun h4=>?_))))))))));replace h4:(!nameB t.text || !lenK t 3)=true:=h4;refine Zj (Zm (Yo O (Ze (kq (Xd (Vy O O ?_))))));refine ⟨Yxh ?_,g⟩;unfold Wzb;simp only [h1,h2,h3,h4,cond_true,cond_false] <;> rfl
 replace h4:(!nameB t.text || !lenK t 3)=false:=h4;have hl3:t.kids.length=3:=by simp only [lenK,Bool.or_eq_false_iff,Bool.not_eq_false',decide_eq_true_eq] at h4;omega
 obtain ⟨hpe,p0,c0,hcell0,hkid0⟩:=Yk hk (i:=0) (by omega);obtain ⟨_,p2,c2,hcell2,hkid2⟩:=Yk hk (i:=2) (by omega);obtain ⟨_,hcell1,hkid1,hr1⟩:=h1x (by omega);have hr2:=ih.kid (i:=2) (by omega);have hkl0:=Xzf hcn 0;refine Ya (kq (Zj (Zm (Yj Zg O (Yq Zf O (E.g0.at_ O) (Jm Zd O O (by omega) hpe (Vf Zh O O (hcell0.grow g) (AN fun _ _ _ _ g E=>?_))))))));refine AS fun _ _ _ g E=>?_;refine Ze (kq (Zj (Zm (Yj Xm O (Yq Yd O (E.g0.at_ O) (Zwa O O (Zq O (Zi O O O (fun _=>Zn Yn (Zc O)) (Ye O O O (Zt Yg (Zk O id) (fun _=>E.g0.at_ O)) (Zi O O O (fun _=>Yxc (Zk O id) Xg) (Zo O (fun _=>Zz (Zc O) (Zk O id)) (Zq O (Zi O O O (fun _=>Zn Zg (Zc O)) (Ye O O O (Zt Zf (Zk O id) (fun _=>E.g0.at_ O)) (Xy O O O (fun _=>(Yl Vhd Vi (Yr (Zk O id) (Xl)) O)) (fun hc=>Utd _ _ _ D _ (hkid0.grow g) hkl0) (fun w54 g54=>?_))))))))))))))));have g:=g.trans g54;replace E:=E.grow g54;refine Zo O (fun _=>Zz (Zc O) (Zk O id)) (Zq O (Zi O O O (fun _=>Zn Zg (Zc O)) (Ye O O O (Zt Zf (Zk O id) (fun _=>E.g1.at_ O)) (Zi O O O (fun _=>Yz Zd (Zk O id) Xg (fun _=>by omega) (fun _=>hpe)) (Ye O O O (Zy Zh (Zk O id) O (fun _=>hcell1.grow g)) (Xy O O O (fun _=>(Yl Ydb Vi (Yr (Zk O id) (Xl)) O)) (fun hc=>Jzb _ _ _ _) (fun w61 g61=>?_)))))));have g:=g.trans g61;replace E:=E.grow g61;refine Zi O O O (fun _=>Zl (Zk O id)) (Zi O O O (fun _=>Zn Zg (Zc O)) (Ye O O O (Zt Zf (Zk O id) (fun _=>E.g1.at_ O)) (Zi O O O (fun _=>Yz Zd (Zk O id) Xg (fun _=>by omega) (fun _=>hpe)) (Ye O O O (Zy Zh (Zk O id) O (fun _=>hcell1.grow g)) (Xy O O O (fun _=>(Yl Yfc Vi (Yr (Zk O id) (Xl)) O)) (fun hc=>Jwb _ _ _ _) (fun w67 g67=>?_))))));have g:=g.trans g67;replace E:=E.grow g67
 refine Zi O O O (fun _=>Wk (Zk O id) (Zk O id)) (Zo O (fun _=>Zz (Zc O) (Zk O id)) (Zq O (Zi O O O (fun _=>Zn Zg (Zc O)) (Ye O O O (Zt Zf (Zk O id) (fun _=>E.g1.at_ O)) (Zi O O O (fun _=>Yz Zd (Zk O id) Xg (fun _=>by omega) (fun _=>hpe)) (Ye O O O (Zy Zh (Zk O id) O (fun _=>hcell2.grow g)) (Xy O O O (fun _=>(Yl Yga Vi (Yr (Zk O id) (Xl)) O)) (fun hc=>hr2.bl _ _ D _ (hkid2.grow g)) (fun w75 g75=>?_))))))));have g:=g.trans g75;replace E:=E.grow g75;refine RTN ?_;refine ⟨Yxh ?_,g⟩;unfold Wzb;simp only [h1,h2,h3,h4,cond_true,cond_false] <;> rfl
 refine RTN ?_;refine ⟨Yxh ?_,g⟩;unfold Wzb;simp only [h1,h2,h3,cond_true,cond_false] <;> rfl
theorem Uud:∀ (t:Nd) (v:Value) (D:Nat→Prop) (w:World),Kd w D t.kids v→count t≤1000000→Ret PP Jcd #[ndV t v] w fun r w'=>r = .int .i64 (depthN t:Nat)∧G w w':=by
 refine Nd.ind fun t ih v D w hk hcn=>?_;obtain ⟨p,c,rfl,hcap,hks⟩:=hk;have g:=G.refl w;have hlen:=Up t;have hdc:=Zge t;have hde:=Uod t
 have hpre:∀ i,maxL ((t.kids.take i).map depthN)≤maxL (t.kids.map depthN):=fun i=>by
  rw [Zcd];intro x hx;rw [List.map_take] at hx;exact (Zcd _ _).1 (Nat.le_refl _) x (List.mem_of_mem_take hx)
 refine WK 22 [0] Ycd ?_;refine BM fun _ w1 _ _ g E=>?_;refine Yo O (Ze (kq (Zj (Zm (Yo O (Ze (kq (Zj (Zj (Zm (Yo O (Ze (kq (Yv (Zfa (fun (i:Nat) u1=>(i≤t.kids.length)∧G w1 u1) [(1,True,_),(2,True,_)] (fun (i:Nat)=>[(3,True,.int .i64 ((maxL ((t.kids.take i).map depthN):Nat):Int)),(4,True,.int .i64 i)]) (fun (i:Nat)=>t.kids.length-i) (0) ⟨by simp,G.refl _⟩ (Za O (Za O (Za O (Za O (Zp _))))) ?_)))))))))))))));rintro i u1 ⟨hI1,gl1⟩;have g:=g.trans gl1;replace E:=E.grow gl1;refine Zj (Zj (Zm (Zq O (Yj Zg O (Yq Zf O (E.g0.at_ O) (Xla Zd O (Xka O O (Ze (kq (Wm O (fun h1=>?_) (fun h1=>?_)))))))))));replace h1:i<t.kids.length:=by simp only [decide_eq_true_eq] at h1;omega
 obtain ⟨b,o,rfl,hD,xs,hR,hX⟩:=hks (by omega);obtain ⟨p',c',hcell,hkid⟩:=Xjb hR hX h1;have hck:=Zsa h1;refine Ya (kq (Zj (Yv (Wc [3,3,0,3,3,0,1,3,3] (Zq O (Yj Zg O (Yq Zf O (E.g0.at_ O) (Zq O (Zfb Zd O O (by omega) (Vf Zh O O (hcell.grow g) (Vh O (Yl Jdd Vi (aqc O aq0) O) (ih _ (List.getElem_mem h1) _ _ _ (hkid.grow g) (by omega)) (fun w18 g18=>?_))))))))))));have gl1:=gl1.trans (g18);replace E:=E.grow g18;refine Zo O (fun _=>Jjg (Zc O) (Zc O)) (Yo O (Ze (kq (Zm (Zq O (Qqa O O (by omega) (Yo O (Vc [(3,_,_),(4,_,_),(1,_,_),(2,_,_)] (Za O (Za O (Za O (Za O (Zp _))))) (Ze (fun a ha=>?_))))))))));rw [Wtg,show max (maxL ((t.kids.take i).map depthN)) (depthN t.kids[i])=maxL ((t.kids.take (i+1)).map depthN) by rw [Ytc depthN t.kids i h1,maxL,maxL,List.foldl_append];rfl] at ha;exact ⟨i+1,ha,⟨h1,gl1⟩,by omega⟩;replace h1:i=t.kids.length:=by simp only [decide_eq_false_iff_not] at h1;omega
 have hp:=hpre i;refine RTN ?_;refine ⟨?_,g⟩;rw [h1,List.take_length,hde];rfl
theorem Wff(t:Nd):(bif (!decide (t.kind=1) || !plainB t) || decide ((50:Int)<(depthN t:Nat)) then false else t.kids.all declB)=validB t:=by
 rw [validB,Qpf];by_cases h:t.kind=1;rw [Qx,locB,textB',Ysa,h];refine Eq.trans (b:=bif !plainB t || decide ((50:Int)<(depthN t:Nat)) then false else t.kids.all declB) O (Eq.trans (b:=((plainB t&&(!(t.kids.any fileVarB)&&everyB t (memK [2,6,4])))&&t.kids.all permF)&&decide (depthN t≤50)) ?_ O)
 have e1:decide ((50:Int)<(depthN t:Nat)) = !decide (depthN t≤50):=by
  rw [← decide_not,decide_eq_decide];omega
 have e2:t.kids.all declB=((!(t.kids.any fileVarB)&&everyB t (memK [2,6,4]))&&t.kids.all permF):=by
  rw [Bool.and_assoc,Xmb,Bool.eq_iff_iff];simp only [Bool.and_eq_true,List.all_eq_true,declB,Bool.not_eq_true',List.any_eq_false];constructor;intro h;exact ⟨fun k hk=>by rw [(h k hk).2];simp,fun k hk=>(h k hk).1⟩;rintro ⟨h1,h2⟩ k hk;exact ⟨h2 k hk,by simpa using h1 k hk⟩
 rw [e1,Zje,e2];ac_rfl;rw [Yvh h];rfl
theorem Wge(t:Nd)(v:Value)(D:Nat→Prop)(w:World)(hk:Kd w D t.kids v)(hcn:count t≤1000000):Ret PP Jed #[ndV t v] w fun r w'=>r = .bool (validB t)∧G w w':=by
 rw [← Wff];obtain ⟨p,c,rfl,hcap,hks⟩:=hk;have hk0:Kd w D t.kids (.slice p t.kids.length c):=⟨p,c,rfl,hcap,hks⟩;have g:=G.refl w;have hln:=Up t;refine WK 31 [0] Ydd ?_;refine BM fun _ _ _ _ g E=>?_;refine AU ?_;refine CG (fun hc=>Uud t _ D _ (hk0.grow g) hcn) (fun w14 g14=>?_);have g:=g.trans g14;replace E:=E.grow g14;refine IF (fun h1=>?_) fun h1=>?_;replace h1:((!decide (t.kind=1) || !plainB t) || decide ((50:Int)<(depthN t:Nat)))=true:=h1;refine RTN ?_;refine ⟨Yxh ?_,g⟩;rw [h1];rfl;replace h1:((!decide (t.kind=1) || !plainB t) || decide ((50:Int)<(depthN t:Nat)))=false:=h1;refine AU ?_;refine Zfa (fun (i:Nat) u1=>(i≤t.kids.length∧∀ j,(h:j<t.kids.length)→j<i→declB t.kids[j]=true)∧G w14 u1) [(1,True,_)] (fun (i:Nat)=>[(3,True,.int .i64 i)]) (fun (i:Nat)=>t.kids.length-i) (0) ⟨⟨Nat.zero_le _,fun j _ hj=>absurd hj (Nat.not_lt_zero j)⟩,G.refl _⟩ (Za O (Za O (Zp _))) ?_;rintro i u1 ⟨hI1,gl1⟩;have g:=g.trans gl1;replace E:=E.grow gl1;refine IF (fun h2=>?_) fun h2=>?_;replace h2:i<t.kids.length:=by simp only [decide_eq_true_eq] at h2;omega
 obtain ⟨hpe,p2,c2,hcell,hkid⟩:=Yk hk0 h2;have hck:=Ju h2;refine AU ?_;refine CP (Wef _ _ _ D _ (hkid.grow g) (by omega)) (fun w29 g29=>?_);have g:=g.trans g29;have gl1:=gl1.trans (g29);replace E:=E.grow g29;refine IF (fun h3=>?_) fun h3=>?_;(try simp only [bsimp] at h3);refine RTN ?_;refine ⟨Yxh ?_,g⟩;rw [h1,cond_false,eq_comm,List.all_eq_false];exact ⟨_,List.getElem_mem h2,by rw [← Wg h2];simpa using h3⟩;refine AU ?_;refine SK [3,1] ?_;refine Ze (fun a ha=>?_);refine ⟨i+1,ha,⟨⟨h2,fun j h hj=>?_⟩,gl1⟩,by omega⟩;by_cases e:j=i;subst e;rw [← Wg h2];simpa using h3;exact hI1.2 j h (by omega);refine RTN ?_;refine ⟨Yxh ?_,g⟩;rw [h1,cond_false,eq_comm,List.all_eq_true];intro x hx;obtain ⟨j,hj,rfl⟩:=List.getElem_of_mem hx;exact hI1.2 j hj (by simp only [decide_eq_false_iff_not] at h2;omega)
def countsB(t:Nd):Bool:=decide (t.kind=24) || decide (t.kind=25)
theorem Qre(t:Nd)(p:Option Addr)(c:Nat)(w:World):Ret PP Vjd #[ndV t (.slice p t.kids.length c)] w fun v w'=>v = .bool (countsB t)∧G w w':=by
 have g:=G.refl w;refine WK 11 [0] Qsc ?_;refine BM fun _ _ _ _ g E=>?_;refine RTN ?_;exact ⟨rfl,g⟩
def numS(t:Nd):Int:=bif countsB t then t.num else 0
def stripT(t:Nd):Nd:=para (fun t l=>.mk t.kind t.text (numS t) 0 l ty0 0 0) t
theorem Wgf(t:Nd):stripT t = .mk t.kind t.text (numS t) 0 (t.kids.map stripT) ty0 0 0:=Yca _ t
def plainT(t:Nd):Nd:=para (fun t l=>.mk t.kind t.text (numS t) t.pos l ty0 0 0) t
theorem Vca(t:Nd):plainT t = .mk t.kind t.text (numS t) t.pos (t.kids.map plainT) ty0 0 0:=Yca _ t
theorem Whf(t:Nd):(plainT t).kids.length=t.kids.length:=by rw [Vca,Nd.kids,List.length_map]
theorem Jdb(t:Nd)(v:Value):ndCells (stripT t) v=[.int .i64 t.kind,Str t.text,.int .i64 (numS t),.int .i64 0,v,.int .i64 0,Str [],.int .i64 0,.int .i64 0]:=by rw [Wgf];rfl
theorem Qhc(t:Nd)(v:Value):ndCells (plainT t) v=[.int .i64 t.kind,Str t.text,.int .i64 (numS t),.int .i64 t.pos,v,.int .i64 0,Str [],.int .i64 0,.int .i64 0]:=by rw [Vca];rfl
theorem Xsa(t:Nd):(plainT t).kids=t.kids.map plainT:=by rw [Vca];rfl
structure Vr where
  name:List UInt8
  typ:Ty
  num:Nat
  level:Nat
  scope:Nat
def vrCells(v:Vr):List Value:=[Str v.name,.int .i64 v.typ.kind,Str v.typ.name,.int .i64 v.num,.int .i64 v.level,.int .i64 v.scope]
structure CSt where
  vars:List Vr
  scope:Nat
  level:Nat
  next:List Nat
  result:Ty
  ea:Int
  ee:Int
def failS(a e:Int)(S:CSt):CSt:=bif decide (S.ee=0) then { S with ea:=a,ee:=e } else S
def failU(b:Bool)(a e:Int)(S:CSt):CSt:=bif b then S else failS a e S
def clnT(t:Nd):Nd:=.mk t.kind t.text (numS t) t.pos [] ty0 0 0
def annT(t:Nd)(ks:List Nd)(y:Ty):Nd:=.mk t.kind t.text (numS t) t.pos ks y 0 0
def findK(kd:Int)(s:List UInt8):List Nd→Nat→Nd×Int
 | [],_=>(nd0,-1)
 | d::l,k=>bif decide (d.kind=kd) then (bif decide (d.text=s) then (d,(k:Int)) else findK kd s l (k+1)) else findK kd s l k
def findD(F:Nd)(kd:Int)(s:List UInt8):Nd×Int:=findK kd s F.kids 0
def pointerS(F n:Nd)(S:CSt):CSt:=bif decide (n.kind=8) then failU (!decide ((findD F 2 n.text).2<0)) n.pos 5 S else S
def localS(F n:Nd)(S:CSt):CSt:=failU (Jt (ofF n).1) n.pos 7 (pointerS F n S)
def openS(S:CSt):CSt:={ S with scope:=S.scope+1 }
def dropV(sc:Nat)(l:List Vr):List Vr:=(l.reverse.dropWhile fun v=>decide (v.scope=sc)).reverse
def shutS(S:CSt):CSt:={ S with vars:=dropV S.scope S.vars,scope:=S.scope-1 }
def dupV(S:CSt)(name:List UInt8):Bool:=S.vars.any fun v=>decide (v.scope=S.scope)&&decide (v.name=name)
def declN(S:CSt):Nat:=S.next.getD S.level 0
def declS(name:List UInt8)(y:Ty)(a:Int)(S:CSt):CSt :=
 let S1:=failU (!dupV S name) a 6 S
 { S1 with next:=S.next.set S.level (declN S+1),vars:=S.vars++[⟨name,y,declN S,S.level,S.scope⟩] }
def Jeb(l:List Vr)(s:List UInt8):Option Vr:=l.reverse.find? fun v=>decide (v.name=s)
def Vbc(d:Nd):Ty:=bif decide (((Zb d 0).kids.length:Int)=0)&&decide ((Zb d 1).kind=9) then tFunc else ty0
def lookR(F:Nd)(S:CSt)(n:Nd):Nd×Bool :=
 match Jeb S.vars n.text with
 | some v=>(.mk n.kind n.text v.num n.pos [] v.typ 1 ((S.level:Int)-v.level),true)
 | none =>
  bif decide (0≤(findD F 6 n.text).2) then (.mk n.kind n.text (findD F 6 n.text).2 n.pos [] (ofF (Zb (findD F 6 n.text).1 0)).1 2 0,true)
  else bif decide (0≤(findD F 4 n.text).2) then (.mk n.kind n.text (findD F 4 n.text).2 n.pos [] (Vbc (findD F 4 n.text).1) 3 0,true)
  else (clnT n,false)
structure Ck where
  ex:CSt→Nd×CSt
  mem:CSt→(Nd×Bool)×CSt
  rcv:CSt→Nd×Bool
  cal:CSt→(Nd×List Ty×Ty)×CSt
  st:CSt→Nd×CSt
  blk:CSt→Nd×CSt
  ifs:CSt→Nd×CSt
  sts:CSt→Nd×CSt
  cas:Bool→CSt→Nd×CSt
def ck0:Ck:=⟨fun S=>(nd0,S),fun S=>((nd0,false),S),fun _=>(nd0,false),fun S=>((nd0,[],ty0),S),fun S=>(nd0,S),fun S=>(nd0,S),fun S=>(nd0,S),fun S=>(nd0,S),fun _ S=>(nd0,S)⟩
def wantS(x:Nd)(k a:Int)(S:CSt):CSt:=failU (decide (x.ty.kind=k)) a 7 S
section
variable (F n:Nd) (x:Nat→Ck)
def memR(S:CSt):(Nd×Bool)×CSt :=
 let a:=(x 0).ex S
 bif decide (a.1.ty.kind=4) then
  match (Zja F a.1.ty.name).1.find? fun f=>decide (f.name=n.text) with
  | some f=>((annT n [a.1] f.ty,true),a.2)
  | none=>((annT n [a.1] ty0,false),failS n.pos 5 a.2)
 else ((annT n [a.1] ty0,false),failS n.pos 7 a.2)
def rcvR(S:CSt):Nd×Bool :=
 bif decide (n.kind=27) then ((lookR F S n).1,((lookR F S n).2&&decide ((lookR F S n).1.ref=2))&&decide (8≤(lookR F S n).1.ty.kind))
 else bif decide (n.kind=28) then ((memR F n x S).1.1,((memR F n x S).1.2&&decide ((memR F n x S).2.ee=0))&&decide (8≤(memR F n x S).1.1.ty.kind))
 else (nd0,false)
def argA(ps:List Ty)(S:CSt):Nat→List Nd×CSt
 | 0=>([],S)
 | i+1 =>
  let a:=argA ps S i
  let e:=(x (i+1)).ex a.2
  (a.1++[e.1],failU (!(decide (i<ps.length) && !Vk (ps.getD i ty0) e.1.ty)) (Zb n (i+1)).pos 7 e.2)
def callR(S:CSt):Nd×CSt :=
 let c:=(x 0).cal S
 let a:=argA n x c.1.2.1 (failU (decide ((n.kids.length:Int)-1=c.1.2.1.length)) n.pos 7 c.2) (n.kids.length-1)
 (annT n (c.1.1::a.1) c.1.2.2,a.2)
def litS(S:CSt):CSt:={ S with result:=ty0,level:=S.level+1,next:=S.next.take (S.level+1)++[0] }
def litR(S:CSt):Nd×CSt :=
 let b:=(x 0).blk (litS S)
 (annT n [b.1] tFunc,{ b.2 with level:=b.2.level-1,result:=S.result })
def unTy:Ty:=bif decide (n.text=[33]) then tBool else tInt
def opR(S:CSt):Nd×CSt :=
 let a:=(x 0).ex S
 bif decide (n.kind=29) then
  let b:=(x 1).ex (wantS a.1 5 (Zb n 0).pos a.2)
  (annT n [a.1,b.1] tInt,wantS b.1 1 (Zb n 1).pos b.2)
 else bif decide (n.kind=31) then (annT n [a.1] (unTy n),wantS a.1 (unTy n).kind n.pos a.2)
 else bif decide (n.kind=32) then
  let b:=(x 1).ex a.2
  (annT n [a.1,b.1] (binT n.text a.1.ty b.1.ty).1,failU (binT n.text a.1.ty b.1.ty).2 n.pos 7 b.2)
 else bif decide (n.kind=33) then (annT n [a.1] tInt,wantS a.1 6 n.pos a.2)
 else bif decide (n.kind=37) then (annT n [a.1] tInt,wantS a.1 5 (Zb n 0).pos a.2)
 else bif decide (n.kind=35) then (annT n [a.1] ⟨5,[]⟩,wantS a.1 1 (Zb n 0).pos a.2)
 else bif decide (n.kind=36) then (annT n [a.1] ⟨6,[]⟩,wantS a.1 1 (Zb n 0).pos a.2)
 else (annT n [a.1] ty0,a.2)
def exR(S:CSt):Nd×CSt :=
 bif decide (n.kind=24) then (annT n [] tInt,S)
 else bif decide (n.kind=25) then (annT n [] tBool,S)
 else bif decide (n.kind=26) then (annT n [] tNil,S)
 else bif decide (n.kind=38) then litR n x S
 else bif decide (n.kind=30) then callR n x S
 else bif decide (n.kind=27) then ((lookR F S n).1,bif (lookR F S n).2 then failU (Jt (lookR F S n).1.ty) n.pos 7 S else failS n.pos 5 S)
 else bif decide (n.kind=28) then ((memR F n x S).1.1,failU (!((memR F n x S).1.2 && !Jt (memR F n x S).1.1.ty)) n.pos 7 (memR F n x S).2)
 else bif decide (n.kind=34) then (annT n [] ⟨4,n.text⟩,failU (!decide ((findD F 2 n.text).2<0)) n.pos 5 S)
 else opR n x S
def rcvX(S:CSt):Nd×CSt:=bif decide ((Zb n 0).kind=28) then (((x 0).mem S).1.1,((x 0).mem S).2) else (((x 0).rcv S).1,S)
def calR(S:CSt):(Nd×List Ty×Ty)×CSt :=
 bif decide (n.kind=28)&&((x 0).rcv S).2 then
  let r:=rcvX n x S
  ((annT n [r.1] ty0,(mthF r.1.ty n.text).1,(mthF r.1.ty n.text).2.1),failU (mthF r.1.ty n.text).2.2 n.pos 5 r.2)
 else bif decide (n.kind=27)&&((lookR F S n).2&&decide ((lookR F S n).1.ref=3)) then
  (((lookR F S n).1,(Zb (findD F 4 n.text).1 0).kids.map (fun p=>(ofF (Zb p 0)).1),(ofF (Zb (findD F 4 n.text).1 1)).1),S)
 else
  let a:=exR F n x S
  ((a.1,[],ty0),failU (tyEqB a.1.ty tFunc) n.pos 7 a.2)
def stA(S:CSt):Nat→List Nd×CSt
 | 0=>([],S)
 | i+1 =>
  let a:=stA S i
  let e:=(x i).st a.2
  (a.1++[e.1],e.2)
def stsR(S:CSt):Nd×CSt:=(annT n (stA x S n.kids.length).1 ty0,(stA x S n.kids.length).2)
def blkR(S:CSt):Nd×CSt:=((stsR n x (openS S)).1,shutS (stsR n x (openS S)).2)
def condR(k:Nd)(y:Ck)(S:CSt):Nd×CSt :=
 bif decide (k.kind=9) then (clnT k,S) else ((y.ex S).1,wantS (y.ex S).1 2 k.pos (y.ex S).2)
def ifR(S:CSt):Nd×CSt :=
 let a:=condR (Zb n 0) (x 0) S
 let b:=(x 1).blk a.2
 let e:=bif decide ((Zb n 2).kind=10) then (x 2).blk b.2 else bif decide ((Zb n 2).kind=18) then (x 2).ifs b.2 else (clnT (Zb n 2),b.2)
 (annT n [a.1,b.1,e.1] ty0,e.2)
def asgR(S:CSt):Nd×CSt :=
 let a:=(x 0).ex S
 let b:=(x 1).ex (failU (((decide (a.1.kind=27) && !decide (a.1.ref=3)) || decide (a.1.kind=28)) || decide (a.1.kind=29)) (Zb n 0).pos 7 a.2)
 (annT n [a.1,b.1] ty0,failU (Vk a.1.ty b.1.ty) (Zb n 1).pos 7 b.2)
def casR(first:Bool)(S:CSt):Nd×CSt :=
 let a:=bif decide ((Zb n 0).kind=9) then (clnT (Zb n 0),failU first n.pos 6 (openS S)) else (x 0).st (openS S)
 let b:=(x 1).sts a.2
 (annT n [a.1,b.1] ty0,shutS b.2)
def selA(S:CSt):Nat→List Nd×Bool×CSt
 | 0=>([],true,S)
 | i+1 =>
  let a:=selA S i
  let e:=(x i).cas a.2.1 a.2.2
  (a.1++[e.1],a.2.1 && !decide ((Zb (Zb n i) 0).kind=9),e.2)
def selR(S:CSt):Nd×CSt:=(annT n (selA n x S n.kids.length).1 ty0,(selA n x S n.kids.length).2.2)
def dclT(ks:List Nd)(k:Nat):Nd:=.mk n.kind n.text k n.pos ks ty0 1 0
def varR(S:CSt):Nd×CSt :=
 let a:=bif decide ((Zb n 1).kind=9) then (clnT (Zb n 1),localS F (Zb n 0) S) else (((x 1).ex (localS F (Zb n 0) S)).1,failU (Vk (ofF (Zb n 0)).1 ((x 1).ex (localS F (Zb n 0) S)).1.ty) (Zb n 1).pos 7 ((x 1).ex (localS F (Zb n 0) S)).2)
 (dclT n [plainT (Zb n 0),a.1] (declN a.2),declS n.text (ofF (Zb n 0)).1 n.pos a.2)
def defR(S:CSt):Nd×CSt :=
 let a:=(x 0).ex S
 let S1:=failU (Jt a.1.ty) (Zb n 0).pos 7 a.2
 (dclT n [a.1] (declN S1),declS n.text a.1.ty n.pos S1)
def forR(S:CSt):Nd×CSt :=
 let a:=condR (Zb n 0) (x 0) S
 let b:=(x 1).blk a.2
 (annT n [a.1,b.1] ty0,b.2)
def retR(S:CSt):Nd×CSt :=
 let S1:=failU (!Bool.xor (decide ((n.kids.length:Int)=1)) (!tyEqB S.result ty0)) n.pos 7 S
 bif decide ((n.kids.length:Int)=1) then
  (annT n [((x 0).ex S1).1] ty0,failU (Vk ((x 0).ex S1).2.result ((x 0).ex S1).1.ty) (Zb n 0).pos 7 ((x 0).ex S1).2)
 else (annT n [] ty0,S1)
def stR(S:CSt):Nd×CSt :=
 bif decide (n.kind=10) then blkR n x S
 else bif decide (n.kind=18) then ifR n x S
 else bif decide (n.kind=12) then asgR n x S
 else bif decide (n.kind=22) then selR n x S
 else bif decide (n.kind=6) then varR F n x S
 else bif decide (n.kind=11) then defR n x S
 else bif decide (n.kind=19) then forR n x S
 else bif decide (n.kind=20) then retR n x S
 else
  let a:=(x 0).ex S
  bif decide (n.kind=16) then
   let b:=(x 1).ex (wantS a.1 6 (Zb n 0).pos a.2)
   (annT n [a.1,b.1] ty0,wantS b.1 1 (Zb n 1).pos b.2)
  else bif decide (n.kind=17) then (annT n [a.1] ty0,wantS a.1 6 (Zb n 0).pos a.2)
  else bif decide (n.kind=21) then (annT n [a.1] ty0,failU (decide (a.1.ty.kind=1) || decide (a.1.ty.kind=2)) (Zb n 0).pos 7 a.2)
  else (annT n [a.1] ty0,a.2)
end
def ckF(F t:Nd)(x:Nat→Ck):Ck:=⟨exR F t x,memR F t x,rcvR F t x,calR F t x,stR F t x,blkR t x,ifR t x,stsR t x,casR t x⟩
def ckT(F t:Nd):Ck:=para (fun t l=>ckF F t fun i=>l.getD i ck0) t
def ckX(F t:Nd)(i:Nat):Ck:=(t.kids.map (ckT F)).getD i ck0
theorem Yva(F t:Nd):ckT F t=ckF F t (ckX F t):=Yca _ t
theorem Vt{F t:Nd}{i:Nat}(h:i<t.kids.length):ckX F t i=ckT F (Zb t i):=by
 rw [ckX,Wg h];simp [List.getD_eq_getElem?_getD,List.getElem?_eq_getElem h]
/-! the file -/
def parA(F p:Nd)(S:CSt):Nat→List Nd×CSt
 | 0=>([],S)
 | i+1 =>
  let a:=parA F p S i
  let f:=Zb p i
  (a.1++[.mk f.kind f.text (declN a.2) f.pos (f.kids.map plainT) ty0 1 0],localS F (Zb f 0) (declS f.text (ofF (Zb f 0)).1 f.pos a.2))
def endP(t:Nd)(l:List (Bool×Bool)):Bool×Bool :=
 (bif decide (t.kind=20) then true
  else bif decide (t.kind=19) then decide ((Zb t 0).kind=9)
  else bif decide (t.kind=10) then (l.getLast?.getD (false,false)).1
  else bif decide (t.kind=18) then (l.getD 1 (false,false)).2&&((decide ((Zb t 2).kind=10)&&(l.getD 2 (false,false)).2) || (decide ((Zb t 2).kind=18)&&(l.getD 2 (false,false)).1))
  else false,(l.getLast?.getD (false,false)).1)
def endT(t:Nd):Bool×Bool:=para endP t
theorem Zac(t:Nd):endT t=endP t (t.kids.map endT):=Yca _ t
def endsL(l:List Nd):Bool:=((l.map endT).getLast?.getD (false,false)).1
theorem Qse(t:Nd):(endT t).2=endsL t.kids:=by rw [Zac];rfl
def funS0(S:CSt):CSt:={ S with vars:=[],scope:=0,level:=0,next:=[0] }
def funS1(F n:Nd)(S:CSt):CSt:={ (parA F (Zb n 0) (funS0 S) (Zb n 0).kids.length).2 with result:=ty0 }
def funS2(F n:Nd)(S:CSt):CSt:=bif decide ((Zb n 1).kind=9) then funS1 F n S else { localS F (Zb n 1) (funS1 F n S) with result:=(ofF (Zb n 1)).1 }
def funR(F n:Nd)(S:CSt):Nd×CSt :=
 let b:=(ckT F (Zb n 2)).sts (funS2 F n S)
 (annT n [annT (Zb n 0) (parA F (Zb n 0) (funS0 S) (Zb n 0).kids.length).1 ty0,plainT (Zb n 1),b.1] ty0,
  failU (decide ((Zb n 1).kind=9) || endsL (Zb n 2).kids) n.pos 7 b.2)
def dupAt(n:Nd)(i:Nat):Bool:=(n.kids.take i).any fun k=>decide (k.text=(Zb n i).text)
def namA(n:Nd)(S:CSt):Nat→CSt
 | 0=>S
 | i+1=>failU (!dupAt n i) (Zb n i).pos 6 (namA n S i)
def strA(F n:Nd)(S:CSt):Nat→CSt
 | 0=>S
 | i+1=>pointerS F (Zb (Zb n i) 0) (failU (!dupAt n i) (Zb n i).pos 6 (strA F n S i))
def dclR(F n:Nd)(S:CSt):Nd×CSt :=
 bif decide (n.kind=2) then (plainT n,strA F n S n.kids.length)
 else bif decide (n.kind=6) then (plainT n,pointerS F (Zb n 0) S)
 else bif decide (n.kind=4) then funR F n S
 else (plainT n,S)
def dclA(F:Nd)(S:CSt):Nat→List Nd×CSt
 | 0=>([],S)
 | i+1 =>
  let a:=dclA F S i
  let e:=dclR F (Zb F i) a.2
  (a.1++[e.1],e.2)
def rs0:CSt:=⟨[],0,0,[],ty0,0,0⟩
def Zsf(F:Nd)(S:CSt):CSt :=
 bif decide ((findD F 4 [109,97,105,110]).2<0) then failS 0 5 S
 else bif decide (0<((Zb (findD F 4 [109,97,105,110]).1 0).kids.length:Int)) || !decide ((Zb (findD F 4 [109,97,105,110]).1 1).kind=9) then failS (findD F 4 [109,97,105,110]).1.pos 7 S else S
def refS(F:Nd):CSt:=Zsf F (dclA F (namA F rs0 F.kids.length) F.kids.length).2
def refA(F:Nd):Nd:=annT F (dclA F (namA F rs0 F.kids.length) F.kids.length).1 ty0
def refCheck(F:Nd):Nd×Int×Int :=
 bif validB F then (bif decide ((refS F).ee=0) then (refA F,0,0) else (nd0,(refS F).ea,(refS F).ee)) else (nd0,0,1)
section
variable {w w':World} {base:Nat} {e:TypeId} {z m q:Nat} {v:Value} {o:Option Addr} {xs:List Value}
theorem Ztf{j:Nat}(h:w.ownsRow base e z (.slice o m q) m xs)(hj:j≤m):w.ownsRow base e z (.slice o j q) j (xs.take (j*z)):=by
 have hl:j*z≤m*z:=Nat.mul_le_mul_right z hj;refine ⟨by rw [List.length_take,h.1];omega,?_⟩;rcases h.2 with ⟨h1,h2⟩|⟨g,cap,cur,h1,h2,h3,h4,h5,h6,h7⟩;injection h1 with e1 e2 e3;subst e1;subst e3;exact .inl ⟨by rw [show j=0 by omega],by omega⟩;injection h1 with e1 e2 e3;subst e1;subst e3;exact .inr ⟨g,q,cur,rfl,h2,h3,by omega,h5,h6,by rw [← h7,List.take_take,Nat.min_eq_left hl]⟩
theorem Uvd(h:w.ownsRow base e z v m xs)(hm:0<m):∃ g c l,v = .slice (some ⟨g,0,none⟩) m c∧base≤g∧Blk w g e l∧m≤c∧l.length=c*z∧l.take (m*z)=xs∧
 ∀ w' l',Blk w' g e l'→l'.length=c*z→w'.ownsRow base e z v m (l'.take (m*z)):=by
 rcases h.2 with ⟨_,h2⟩|⟨g,cap,cur,h1,h2,h3,h4,h5,h6,h7⟩;omega;refine ⟨g,cap,cur.toList,h1,h2,by simpa [Blk] using h3,h4,by simpa using h6,h7,fun w' l' hB hl=>⟨?_,.inr ⟨g,cap,l'.toArray,h1,h2,hB,h4,h5,by simpa using hl,by simp⟩⟩⟩;rw [List.length_take,hl];have:=Nat.mul_le_mul_right z h4;omega
theorem take_set{α:Type}(l:List α)(i n:Nat)(u:α)(h:i<n):(l.set i u).take n=(l.take n).set i u:=by
 rw [List.take_set]
end
def mutR(e:Nat):Bool:=Nat.beq e Vb || (Nat.beq e Xp || Nat.beq e Yib)
def ckCells(F:Nd)(fv sv sn:Value)(S:CSt):List Value:=ndCells F fv++[sv,.int .i64 S.scope,.int .i64 S.level,sn,.int .i64 S.result.kind,Str S.result.name,.int .i64 S.ea,.int .i64 S.ee]
structure CK (F:Nd) (n0 b:Nat) (S:CSt) (fv sv sn:Value) (w:World):Prop where
  B:Blk w b Vb (ckCells F fv sv sn S)
  hb:n0≤b
  kF:Kd w (fun k=>k<n0) F.kids fv
  hF:count F≤1000000
  ov:w.ownsRow n0 Xp 6 sv S.vars.length (S.vars.flatMap vrCells)
  on:w.ownsRow n0 Yib 1 sn S.next.length (S.next.map fun (k:Nat)=>Value.int .i64 (k:Int))
def Chk(F:Nd)(n0 b:Nat)(S:CSt)(w:World):Prop:=∃ fv sv sn,CK F n0 b S fv sv sn w
section
variable {F:Nd} {n0 b:Nat} {S S':CSt} {fv sv sn sv' sn':Value} {w w' w1 w2:World}
theorem Zka{e e':TypeId}{z m j:Nat}{v:Value}{xs l:List Value}(h:w.ownsRow n0 e z v m xs)(hB:Blk w j e' l)(he:Nat.beq e e'=false):v.ownBlock≠some j:=fun hk=>by
 rcases h.2 with ⟨h1,_⟩|⟨g,cap,cur,h1,h2,h3,_⟩;rw [h1] at hk;cases hk;rw [h1] at hk;have:g=j:=by injection hk
 subst this;unfold Blk at hB;rw [hB] at h3;injection h3 with h3;injection h3 with _ h3;subst h3;simp at he
theorem Qte{e e':TypeId}{z z' m m':Nat}{v v':Value}{xs xs':List Value}(h:w.ownsRow n0 e z v m xs)(h':w.ownsRow n0 e' z' v' m' xs')(he:Nat.beq e e'=false):v.ownBlock=none∨v.ownBlock≠v'.ownBlock:=by
 rcases h.2 with ⟨h1,_⟩|⟨g,cap,cur,h1,h2,h3,_⟩;exact .inl (by rw [h1];rfl);refine .inr fun hk=>?_;rcases h'.2 with ⟨h1',_⟩|⟨g',cap',cur',h1',h2',h3',_⟩;rw [h1,h1'] at hk;cases hk;rw [h1,h1'] at hk;have:g=g':=by injection hk
 subst this;rw [h3] at h3';injection h3' with h3';injection h3' with _ h3';subst h3';simp at he
theorem Qvf{M:Nat→Bool}{e:TypeId}{z m:Nat}{v:Value}{xs:List Value}{row:Option Nat}(h:w.ownsRow n0 e z v m xs)(he:M e=true)(hg:w.grownBy w' row)(hr:∀ k,row=some k→¬ TyR M w k):w'.ownsRow n0 e z v m xs:=by
 have ht:=Jxb h he;refine Xw h hg ?_;rcases h.2 with ⟨h1,_⟩|⟨g,cap,cur,h1,_⟩;exact .inl (by rw [h1];rfl);refine .inr fun hk=>?_;have hv:v.ownBlock=some g:=by rw [h1];rfl
 exact hr g (hk.symm.trans hv) (ht g hv).2
theorem Xnc(w:World)(row:Option Nat):w.grownBy w row:=⟨rfl,rfl,rfl,Nat.le_refl _,fun _ _ _=>rfl⟩
theorem CK.lt(h:CK F n0 b S fv sv sn w):n0≤b∧b<w.heap.size:=⟨h.hb,h.B.lt⟩
theorem CK.grow(h:CK F n0 b S fv sv sn w)(g:G w w'):CK F n0 b S fv sv sn w':=⟨h.B.grow g,h.hb,h.kF.grow g,h.hF,Xz h.ov g,Xz h.on g⟩
theorem CK.keepr{row:Option Nat}(h:CK F n0 b S fv sv sn w)(hg:w.grownBy w' row)(hr:∀ k,row=some k→n0≤k∧¬ TyR mutR w k):CK F n0 b S fv sv sn w' :=
 ⟨h.B.keep hg (fun e=>(hr b e.symm).2 (Zmf h.B rfl)),h.hb,h.kF.keep hg fun k hk _ e=>by have:=(hr k e.symm).1;omega,h.hF,Qvf h.ov rfl hg fun k hk=>(hr k hk).2,Qvf h.on rfl hg fun k hk=>(hr k hk).2⟩
theorem Zcb(v:Vr):(vrCells v).length=6:=rfl
def vr0:Vr:=⟨[],ty0,0,0,0⟩
def lst(l:List Vr):Vr:=l.getLast?.getD vr0
theorem Zme{l:List Vr}(h:w.ownsRow n0 Xp 6 sv l.length (l.flatMap vrCells)):∃ p c,sv = .slice p l.length c∧l.length≤c∧∀ i,(hi:i<l.length)→p=some ⟨pb p,po p,none⟩∧RowAt w (pb p) (po p+i*6) (vrCells l[i]):=by
 obtain ⟨p,c,hv,hc⟩:=Vja h;refine ⟨p,c,hv,hc,fun i hi=>?_⟩;obtain ⟨g,c',hv',_,hR,_⟩:=Uta h (by omega);rw [hv] at hv';injection hv' with e1 _ _;subst e1;exact ⟨rfl,Jvb Zcb hR hi⟩
theorem Qwf{l:List Vr}{p:Option Addr}{c:Nat}(h:w.ownsRow n0 Xp 6 (.slice p l.length c) l.length (l.flatMap vrCells)):w.ownsRow n0 Xp 6 (.slice p l.dropLast.length c) l.dropLast.length (l.dropLast.flatMap vrCells):=by
 have hx:=Ztf h (j:=l.dropLast.length) (by simp)
 have e:(l.flatMap vrCells).take (l.dropLast.length*6)=l.dropLast.flatMap vrCells:=by
  rcases List.eq_nil_or_concat l with e|⟨a,x,e⟩;subst e;rfl;subst e;rw [List.concat_eq_append,List.dropLast_concat,List.flatMap_append,← Qda Zcb a,List.take_left]
 rwa [e] at hx
theorem CK.chk(h:CK F n0 b S fv sv sn w):Chk F n0 b S w:=⟨_,_,_,h⟩
theorem Chk.lt(h:Chk F n0 b S w):n0≤b∧b<w.heap.size:=by obtain ⟨_,_,_,h⟩:=h;exact h.lt
theorem Chk.grow(h:Chk F n0 b S w)(g:G w w'):Chk F n0 b S w':=by obtain ⟨_,_,_,h⟩:=h;exact (h.grow g).chk
theorem Chk.keepr{row:Option Nat}(h:Chk F n0 b S w)(hg:w.grownBy w' row)(hr:∀ k,row=some k→n0≤k∧¬ TyR mutR w k):Chk F n0 b S w':=by obtain ⟨_,_,_,h⟩:=h;exact (h.keepr hg hr).chk
theorem CK.keep{j:Nat}{e:TypeId}{l:List Value}(h:CK F n0 b S fv sv sn w)(hg:w.grownBy w' (some j))(hB:Blk w j e l)(he:mutR e=false)(hj:n0≤j):CK F n0 b S fv sv sn w' :=
 h.keepr hg fun k hk=>by injection hk with hk;subst hk;exact ⟨hj,Wce hB he⟩
theorem Chk.keep{j:Nat}{e:TypeId}{l:List Value}(h:Chk F n0 b S w)(hg:w.grownBy w' (some j))(hB:Blk w j e l)(he:mutR e=false)(hj:n0≤j):Chk F n0 b S w':=by obtain ⟨_,_,_,h⟩:=h;exact (h.keep hg hB he hj).chk
theorem CK.keepO{X:List Nat}{lo:Nat}{ks:List Nd}{s:Value}(h:CK F n0 b S fv sv sn w)(hg:w.grownBy w' s.ownBlock)(hO:OwnN X lo w ks s)(hj:n0≤lo):CK F n0 b S fv sv sn w' :=
 h.keepr hg fun k hk=>⟨Nat.le_trans hj (hO.ge k hk),(hO.nd k hk).ntyr rfl⟩
theorem Chk.keepO{X:List Nat}{lo:Nat}{ks:List Nd}{s:Value}(h:Chk F n0 b S w)(hg:w.grownBy w' s.ownBlock)(hO:OwnN X lo w ks s)(hj:n0≤lo):Chk F n0 b S w':=by obtain ⟨_,_,_,h⟩:=h;exact (h.keepO hg hO hj).chk
theorem CK.set(h:CK F n0 b S fv sv sn w)(hg:w.grownBy w' (some b))(hB:Blk w' b Vb (ckCells F fv sv sn S'))(hv:S'.vars=S.vars)(hn:S'.next=S.next):CK F n0 b S' fv sv sn w' :=
 ⟨hB,h.hb,h.kF.keep hg fun k hk _ e=>by injection e with e;have:=h.hb;omega,h.hF,by rw [hv];exact Xw h.ov hg (.inr (Zka h.ov h.B rfl)),by rw [hn];exact Xw h.on hg (.inr (Zka h.on h.B rfl))⟩
theorem CK.rowv(h:CK F n0 b S fv sv sn w)(hg:w.grownBy w1 sv.ownBlock):Blk w1 b Vb (ckCells F fv sv sn S)∧Kd w1 (fun k=>k<n0) F.kids fv∧w1.ownsRow n0 Yib 1 sn S.next.length (S.next.map fun (k:Nat)=>Value.int .i64 (k:Int)) :=
 ⟨h.B.keep hg (fun e=>Zka h.ov h.B rfl e.symm),h.kF.keep hg fun k hk _ e=>by have:=(Jxb (M:=mutR) h.ov rfl k e.symm).1;omega,Xw h.on hg (Qte h.on h.ov rfl)⟩
theorem CK.rown(h:CK F n0 b S fv sv sn w)(hg:w.grownBy w1 sn.ownBlock):Blk w1 b Vb (ckCells F fv sv sn S)∧Kd w1 (fun k=>k<n0) F.kids fv∧w1.ownsRow n0 Xp 6 sv S.vars.length (S.vars.flatMap vrCells) :=
 ⟨h.B.keep hg (fun e=>Zka h.on h.B rfl e.symm),h.kF.keep hg fun k hk _ e=>by have:=(Jxb (M:=mutR) h.on rfl k e.symm).1;omega,Xw h.ov hg (Qte h.ov h.on rfl)⟩
theorem CK.setv(h:CK F n0 b S fv sv sn w)(hg:w.grownBy w1 sv.ownBlock)(hO:w1.ownsRow n0 Xp 6 sv' S'.vars.length (S'.vars.flatMap vrCells))(hg2:w1.grownBy w2 (some b))(hB:Blk w2 b Vb (ckCells F fv sv' sn S'))(hn:S'.next=S.next):CK F n0 b S' fv sv' sn w2:=by
 obtain ⟨q1,q2,q3⟩:=h.rowv hg;exact ⟨hB,h.hb,q2.keep hg2 fun k hk _ e=>by injection e with e;have:=h.hb;omega,h.hF,Xw hO hg2 (.inr (Zka hO q1 rfl)),by rw [hn];exact Xw q3 hg2 (.inr (Zka q3 q1 rfl))⟩
theorem CK.setn(h:CK F n0 b S fv sv sn w)(hg:w.grownBy w1 sn.ownBlock)(hO:w1.ownsRow n0 Yib 1 sn' S'.next.length (S'.next.map fun (k:Nat)=>Value.int .i64 (k:Int)))(hg2:w1.grownBy w2 (some b))(hB:Blk w2 b Vb (ckCells F fv sv sn' S'))(hv:S'.vars=S.vars):CK F n0 b S' fv sv sn' w2:=by
 obtain ⟨q1,q2,q3⟩:=h.rown hg;exact ⟨hB,h.hb,q2.keep hg2 fun k hk _ e=>by injection e with e;have:=h.hb;omega,h.hF,by rw [hv];exact Xw q3 hg2 (.inr (Zka q3 q1 rfl)),Xw hO hg2 (.inr (Zka hO q1 rfl))⟩
theorem CK.elt(h:CK F n0 b S fv sv sn w)(hg:w.grownBy w1 sn.ownBlock)(hO:w1.ownsRow n0 Yib 1 sn S'.next.length (S'.next.map fun (k:Nat)=>Value.int .i64 (k:Int)))(hS:S' = { S with next:=S'.next }):CK F n0 b S' fv sv sn w1:=by
 obtain ⟨q1,q2,q3⟩:=h.rown hg;rw [hS];exact ⟨q1,h.hb,q2,h.hF,q3,hO⟩
end
def OwF{α:Type}(f:α→List Value)(e:TypeId)(z base:Nat)(w:World)(ks:List α)(s:Value):Prop:=w.ownsRow base e z s ks.length (ks.flatMap f)∧(ks=[]→s = .slice none 0 0)
def RetF{α:Type}(f:α→List Value)(w:World)(ks:List α)(s:Value):Prop:=RowF f w ks s∧(ks=[]→s = .slice none 0 0)
section
variable {α:Type} {f:α→List Value} {e:TypeId} {z base:Nat} {w w':World} {ks:List α} {s:Value}
theorem Zne(w:World):OwF f e z base w [] (.slice none 0 0):=⟨Zga _ _ _ _,fun _=>rfl⟩
theorem OwF.grow(h:OwF f e z base w ks s)(g:G w w'):OwF f e z base w' ks s:=⟨Xz h.1 g,h.2⟩
theorem OwF.keep(h:OwF f e z base w ks s){j:Nat}{e':TypeId}{l:List Value}(hg:w.grownBy w' (some j))(hB:Blk w j e' l)(he:Nat.beq e e'=false):OwF f e z base w' ks s:=⟨Xw h.1 hg (.inr (Zka h.1 hB he)),h.2⟩
theorem OwF.keepM(h:OwF f e z base w ks s){j:Nat}{l:List Value}(hg:w.grownBy w' (some j))(hB:MapB w j l):OwF f e z base w' ks s:=by
 refine ⟨Xw h.1 hg (.inr fun hk=>?_),h.2⟩;obtain ⟨es,c,hb,_⟩:=hB;rcases h.1.2 with ⟨h1,_⟩|⟨g,cap,cur,h1,h2,h3,_⟩;rw [h1] at hk;cases hk;rw [h1] at hk;have:g=j:=by injection hk
 subst this;rw [hb] at h3;injection h3 with h3;cases h3
theorem OwF.keepB(h:OwF f e z base w ks s){j:Nat}(hg:w.grownBy w' (some j))(hne:∀ k,s.ownBlock=some k→k≠j):OwF f e z base w' ks s :=
 ⟨Xw h.1 hg (.inr fun hk=>hne j hk rfl),h.2⟩
theorem OwF.nnew(h:OwF f e z base w ks s){j:Nat}{e':TypeId}{l:List Value}(N:New w w' j e' l):∀ k,s.ownBlock=some k→k≠j:=fun k hk he=>by
 have:=(h.1.lt k hk).2;have:=N.at_;omega
theorem OwF.ge(h:OwF f e z base w ks s):∀ k,s.ownBlock=some k→base≤k:=fun k hk=>(h.1.lt k hk).1
theorem OwF.lt(h:OwF f e z base w ks s):∀ k,s.ownBlock=some k→k<w.heap.size:=fun k hk=>(h.1.lt k hk).2
theorem OwF.slice(h:OwF f e z base w ks s):∃ a c,s = .slice a ks.length c:=by
 obtain ⟨a,c,h2,_⟩:=Vja h.1;exact ⟨a,c,h2⟩
theorem OwF.ret(h:OwF f e z base w ks s):RetF f w ks s:=⟨Xed h.1 rfl,h.2⟩
theorem RetF.grow(h:RetF f w ks s)(g:G w w'):RetF f w' ks s:=⟨h.1.grow g,h.2⟩
theorem RetF.slice(h:RetF f w ks s):∃ a c,s = .slice a ks.length c:=by
 obtain ⟨a,c,h2,_⟩:=h.1;exact ⟨a,c,h2⟩
theorem Jfb{b:Nat}{x:α}{l:List Value}(h:Blk w b e l)(hl:l=f x):RetF f w [x] (.slice (some ⟨b,0,none⟩) 1 1) :=
 ⟨Qcf (l:=[x]) h (by rw [hl];simp) (Nat.le_refl _),fun h=>by cases h⟩
theorem RowF.opt(hf:∀ a,(f a).length=z){p:Option Addr}{n c:Nat}(h:RowF f w ks (.slice p n c)){i:Nat}(hi:i<ks.length):p=some ⟨pb p,po p,none⟩∧RowAt w (pb p) (po p+i*z) (f ks[i]):=by
 obtain ⟨p',c',e1,_,h2⟩:=h;injection e1 with e1 _ _;subst e1;obtain ⟨b,o,rfl,hR⟩:=h2 (by omega);exact ⟨rfl,Jvb hf hR hi⟩
end
section
variable {P:Program} {Z:List PanicEntry→Act→World→Prop} {ops:List Oper} {cl:List Nat} {lv:List Bool} {W0:World} {n:Nat} {K:Act→World→Prop} {k:Nat} {rest:List Oper} {σ:List Ent} {w:World} {d:Nat} {ty:TypeId} {pos:String} {after:Array Edge}
theorem Zdb{α:Type}{f:α→List Value}{t e z by_ base:Nat}{x y:Operand}{s v zv:Value}{ks ls:List α}(hb:(Nat.beq (clOf cl k) 2&&Nat.blt d n)=true)(ht:tyElem P t=some (e,z,by_))(hzv:zeroOf P e=some zv)
 (hzs:zv.cells.size=z) (hz:Nat.blt 0 z=true) (hf:∀ a,(f a).length=z) (hx:Ev n σ True x s) (hO:OwF f e z base w ks s) (hy:Ev n σ True y v) (hR:RetF f w ls v) (h1:onesB (ls.flatMap f)=true)
 (hlen:ks.length+ls.length≤10000000) (hby:Nat.ble by_ 1000=true) (hbase:base≤w.heap.size)
 (h:∀ a' c' w',OwF f e z base w' (ks++ls) (.slice a' (ks++ls).length c')→w.grownBy w' s.ownBlock→SR P Z ops cl lv W0 n K (k+1) rest ((d,True,.slice a' (ks++ls).length c') :: σ) w') :
 SR P Z ops cl lv W0 n K k (⟨some d,.call { callee:=.builtin .append,args:=#[x,y],argTypes:=#[t,t] },ty,pos,after,none⟩::rest) σ w:=by
 by_cases hl:ls=[];subst hl;have:=hR.2 rfl;subst this;obtain ⟨a,c,rfl,hmc⟩:=Vja hO.1;have h':=h a c w;simp only [List.append_nil] at h';exact Xfd hb ht hx hmc hy (h' hO (Uld _ _));obtain ⟨p,c,rfl,_,h2⟩:=hR.1;obtain ⟨b,o,rfl,hr⟩:=h2 (List.length_pos_iff.2 hl);have hby:=Nat.le_of_ble_eq_true hby;refine Jc hb ht hzv hzs (by rw [Nat.blt_eq] at hz;exact hz) hx hO.1 hy (Qda hf ls) hr h1 (by simp only [maxLen];omega) ?_ hbase fun a' c' w' ho hg hat=>?_
 calc (ks.length+ls.length)*by_≤10000000*1000:=Nat.mul_le_mul hlen hby
  _≤140737488355328:=by decide
 have h':=h a' c' w';rw [List.length_append] at h';exact h' ⟨by rw [List.flatMap_append,List.length_append];exact ho,fun e=>absurd (List.append_eq_nil_iff.1 e).2 hl⟩ hg
end
/-! captures -/
def capCells(c:Int×Int):List Value:=[.int .i64 c.1,.int .i64 c.2]
theorem Zea(c:Int×Int):(capCells c).length=2:=rfl
def Jgb(u:(Nd×Int)×Option Addr×Nat×Nat):List Value:=ndCells u.1.1 (.slice u.2.1 u.2.2.1 u.2.2.2)++[.int .i64 u.1.2]
theorem Zta(u:(Nd×Int)×Option Addr×Nat×Nat):(Jgb u).length=10:=rfl
structure Lc where
  name:List UInt8
  typ:Ty
  par:Bool
  box:Bool
def lcCells(v:Lc):List Value:=[Str v.name,.int .i64 v.typ.kind,Str v.typ.name,.bool v.par,.bool v.box]
theorem Qz(v:Lc):(lcCells v).length=5:=rfl
theorem Xea{α:Type}{f:α→List Value}(hf:∀ a,onesB (f a)=true):∀ l:List α,onesB (l.flatMap f)=true
 | []=>rfl
 | a::l=>by
  have:=Xea hf l;have h1:=hf a;unfold onesB at this h1 ⊢;rw [List.flatMap_cons,List.all_append,h1,this];rfl
theorem Qxf:∀ c,onesB (capCells c)=true:=fun c=>rfl
theorem Jhb:∀ u,onesB (Jgb u)=true:=fun u=>rfl
theorem Zoe:∀ v,onesB (lcCells v)=true:=fun v=>rfl
def upL(k:Nd)(v:Int):Int:=bif decide (k.kind=38) then v+1 else v
mutual
def visN:Nd→Int→List (Nd×Int)
 | .mk _ _ _ _ ks _ _ _,v=>visL ks v
def visL:List Nd→Int→List (Nd×Int)
 | [],_=>[]
 | k::ks,v=>(k,v)::(visN k (upL k v)++visL ks v)
end
theorem Zuf(v:Int):∀ l,visL l v=l.flatMap fun k=>(k,v)::visN k (upL k v)
 | []=>rfl
 | k::ks=>by rw [visL,Zuf v ks];rfl
theorem Xja(t:Nd)(v:Int):visN t v=t.kids.flatMap fun k=>(k,v)::visN k (upL k v):=by
 cases t;rw [visN,Zuf];rfl
theorem Wug(k:Nd)(v c:Int):upL k (v+c)=upL k v+c:=by
 unfold upL;cases decide (k.kind=38);rfl;show v+c+1=v+1+c;omega
theorem Que(c:Int):∀ (t:Nd) (v:Int),visN t (v+c)=(visN t v).map fun x=>(x.1,x.2+c):=by
 refine Nd.ind fun t ih v=>?_;rw [Xja,Xja,List.map_flatMap]
 have e:∀ l:List Nd,(∀ k∈l,k∈t.kids)→(l.flatMap fun k=>(k,v+c)::visN k (upL k (v+c)))=l.flatMap fun k=>((k,v)::visN k (upL k v)).map fun x=>(x.1,x.2+c):=by
  intro l hl
  induction l with
  | nil=>rfl
  | cons k l il =>
   rw [List.flatMap_cons,List.flatMap_cons,il fun k hk=>hl k (List.mem_cons_of_mem _ hk),Wug,ih k (hl k List.mem_cons_self)];rfl
 exact e t.kids fun _ h=>h
theorem Zpe:∀ (t:Nd) (v:Int),∀ x∈visN t v,v≤x.2:=by
 refine Nd.ind fun t ih v x hx=>?_;rw [Xja] at hx;obtain ⟨k,hk,hx⟩:=List.mem_flatMap.1 hx;rcases List.mem_cons.1 hx with e|hx;subst e;exact Int.le_refl _;refine Int.le_trans ?_ (ih k hk _ x hx);unfold upL;cases decide (k.kind=38);exact Int.le_refl _;exact Int.le_of_lt (Int.lt_succ v)
theorem Wvg:∀ (t:Nd) (v:Int),∀ x∈visN t v,x.2<v+count t:=by
 refine Nd.ind fun t ih v x hx=>?_;rw [Xja] at hx;obtain ⟨k,hk,hx⟩:=List.mem_flatMap.1 hx;have hc:=Ji hk;have h1:=Un k;rcases List.mem_cons.1 hx with e|hx;subst e;show v<v+(count t:Int);omega;have:=ih k hk _ x hx;unfold upL at this;cases h:decide (k.kind=38);rw [h,cond_false] at this;omega;rw [h,cond_true] at this;omega
def ownN(t:Nd):List Nd:=para (fun t l=>(t.kids.zip l).flatMap fun x=>x.1::bif decide (x.1.kind=38) then [] else x.2) t
theorem Zed(t:Nd):ownN t=t.kids.flatMap fun k=>k::bif decide (k.kind=38) then [] else ownN k:=by
 unfold ownN;rw [Yca];generalize t.kids=l
 induction l with
 | nil=>rfl
 | cons k l ih=>rw [List.map_cons,List.zip_cons_cons,List.flatMap_cons,ih,List.flatMap_cons]
theorem Whe{α:Type}{p:α→Bool}{l:List α}(h:∀ x∈l,p x=false):l.filter p=[]:=List.filter_eq_nil_iff.2 fun x hx=>by rw [h x hx];decide
theorem Xpd:∀ (t:Nd) (v:Int),((visN t v).filter fun x=>decide (x.2≤v)).map Prod.fst=ownN t:=by
 refine Nd.ind fun t ih v=>?_;rw [Xja,Zed]
 have e:∀ l:List Nd,(∀ k∈l,k∈t.kids)→((l.flatMap fun k=>(k,v)::visN k (upL k v)).filter fun x=>decide (x.2≤v)).map Prod.fst=l.flatMap fun k=>k::bif decide (k.kind=38) then [] else ownN k:=by
  intro l hl
  induction l with
  | nil=>rfl
  | cons k l il =>
   rw [List.flatMap_cons,List.flatMap_cons,List.filter_append,List.map_append,il fun k hk=>hl k (List.mem_cons_of_mem _ hk)];congr 1;rw [List.filter_cons_of_pos (by simp),List.map_cons];congr 1;cases h:decide (k.kind=38);have q:=ih k (hl k List.mem_cons_self) v;unfold upL;rw [h];exact q;rw [Whe fun x hx=>?_];rfl;have:=Zpe k _ x hx;unfold upL at this;rw [h,cond_true] at this;simp;omega
 exact e t.kids fun _ h=>h
def litN(t:Nd):List Nd:=para (fun t l=>(t.kids.zip l).flatMap fun x=>(bif decide (x.1.kind=38) then [x.1] else [])++x.2) t
theorem Wwg(t:Nd):litN t=t.kids.flatMap fun k=>(bif decide (k.kind=38) then [k] else [])++litN k:=by
 unfold litN;rw [Yca];generalize t.kids=l
 induction l with
 | nil=>rfl
 | cons k l ih=>rw [List.map_cons,List.zip_cons_cons,List.flatMap_cons,ih,List.flatMap_cons]
theorem Qyf:∀ (t:Nd) (v:Int),((visN t v).filter fun x=>decide (x.1.kind=38)).map Prod.fst=litN t:=by
 refine Nd.ind fun t ih v=>?_;rw [Xja,Wwg]
 have e:∀ l:List Nd,(∀ k∈l,k∈t.kids)→((l.flatMap fun k=>(k,v)::visN k (upL k v)).filter fun x=>decide (x.1.kind=38)).map Prod.fst=l.flatMap fun k=>(bif decide (k.kind=38) then [k] else [])++litN k:=by
  intro l hl
  induction l with
  | nil=>rfl
  | cons k l il =>
   rw [List.flatMap_cons,List.flatMap_cons,List.filter_append,List.map_append,il fun k hk=>hl k (List.mem_cons_of_mem _ hk)];congr 1;rw [List.filter_cons,← ih k (hl k List.mem_cons_self) (upL k v)];cases h:decide (k.kind=38) <;> rfl
 exact e t.kids fun _ h=>h
def useB(k:Nd):Bool:=decide (k.kind=27)&&decide (k.ref=1)
def useN(t:Nd)(v:Int):List (Nd×Int):=(visN t v).filter fun x=>useB x.1
theorem Zvf(t:Nd)(v:Int):useN t v=t.kids.flatMap fun k=>(bif useB k then [(k,v)] else [])++useN k (upL k v):=by
 unfold useN;rw [Xja];generalize t.kids=l
 induction l with
 | nil=>rfl
 | cons k l il =>
  rw [List.flatMap_cons,List.flatMap_cons,List.filter_append,il,List.filter_cons];cases useB k <;> rfl
def capC(x:Nd×Int):Int×Int:=(IntKind.i64.wrap (x.1.up-x.2),x.1.num)
def capS(o:List (Int×Int))(x:Nd×Int):List (Int×Int):=bif decide (0<(capC x).1) && !decide (capC x∈o) then o++[capC x] else o
def capL(l:List (Nd×Int)):List (Int×Int):=l.foldl capS []
def capW(o:List (Int×Int))(x:Nd×Int):List (Int×Int):=bif useB x.1 then capS o x else o
theorem Qzf(l:List (Nd×Int))(o:List (Int×Int)):l.foldl capW o=(l.filter fun x=>useB x.1).foldl capS o:=by
 induction l generalizing o with
 | nil=>rfl
 | cons x l ih =>
  rw [List.foldl_cons,List.filter_cons,ih];unfold capW;cases useB x.1 <;> rfl
def capT(t:Nd):List (Int×Int):=bif decide (t.kind=38) then capL (useN t 0) else []
theorem Wie{t:Nd}(h:t.kind=38):(visN t 0).foldl capW []=capT t:=by
 unfold capT;rw [Qzf,h];rfl
theorem Jaf{o:List (Int×Int)}{x:Nd×Int}{c:Int×Int}:c∈capS o x↔c∈o∨(c=capC x∧0<c.1):=by
 unfold capS;cases h:(decide (0<(capC x).1) && !decide (capC x∈o));rw [cond_false];refine ⟨.inl,fun q=>q.elim id fun ⟨e,hp⟩=>?_⟩;subst e;simp only [Bool.and_eq_false_iff,decide_eq_false_iff_not,Bool.not_eq_false',decide_eq_true_eq] at h;exact h.elim (fun h=>absurd hp h) id;rw [cond_true,List.mem_append,List.mem_singleton];simp only [Bool.and_eq_true,decide_eq_true_eq] at h;exact ⟨fun q=>q.imp id fun e=>⟨e,e▸h.1⟩,fun q=>q.imp id fun e=>e.1⟩
theorem Wje:∀ {l:List (Nd×Int)} {o:List (Int×Int)} {c:Int×Int},c∈l.foldl capS o↔c∈o∨∃ x∈l,c=capC x∧0<c.1
 | [],o,c=>by simp
 | x::l,o,c=>by
  rw [List.foldl_cons,Wje,Jaf];constructor;rintro ((h|h)|⟨y,hy,h⟩);exact .inl h;exact .inr ⟨x,List.mem_cons_self,h⟩;exact .inr ⟨y,List.mem_cons_of_mem _ hy,h⟩;rintro (h|⟨y,hy,h⟩);exact .inl (.inl h);rcases List.mem_cons.1 hy with e|hy;subst e;exact .inl (.inr h);exact .inr ⟨y,hy,h⟩
theorem capT_mem{t:Nd}{c:Int×Int}:c∈capT t↔t.kind=38∧∃ x∈visN t 0,useB x.1=true∧c=capC x∧0<c.1:=by
 unfold capT;cases h:decide (t.kind=38);rw [cond_false];exact ⟨fun h=>(by cases h),fun q=>absurd q.1 (of_decide_eq_false h)⟩;rw [cond_true];unfold capL;rw [Wje];refine ⟨fun q=>?_,fun ⟨_,x,hx,hu,q⟩=>.inr ⟨x,List.mem_filter.2 ⟨hx,hu⟩,q⟩⟩;rcases q with q|⟨x,hx,q⟩;cases q;exact ⟨of_decide_eq_true h,x,(List.mem_filter.1 hx).1,(List.mem_filter.1 hx).2,q⟩
structure Dc where
  name:List UInt8
  typ:Ty
  par:Bool
def dclD(x:Nd):List Dc :=
 bif decide (x.kind=3) then [⟨x.text,(ofF (Zb x 0)).1,true⟩]
 else bif decide (x.kind=6) then [⟨x.text,(ofF (Zb x 0)).1,false⟩]
 else bif decide (x.kind=11) then [⟨x.text,(Zb x 0).ty,false⟩] else []
def ownD(t:Nd):List Dc:=para (fun t l=>dclD t++bif decide (t.kind=38) then [] else l.flatten) t
theorem Vcc(t:Nd):ownD t=dclD t++bif decide (t.kind=38) then [] else t.kids.flatMap ownD:=by
 unfold ownD;rw [Yca];rfl
def locL(t:Nd):List Dc:=t.kids.flatMap ownD
theorem Wke:∀ t:Nd,locL t=(ownN t).flatMap dclD:=by
 refine Nd.ind fun t ih=>?_;unfold locL;rw [Zed,List.flatMap_assoc]
 have e:∀ l:List Nd,(∀ k∈l,k∈t.kids)→l.flatMap ownD=l.flatMap fun k=>(k::bif decide (k.kind=38) then [] else ownN k).flatMap dclD:=by
  intro l hl
  induction l with
  | nil=>rfl
  | cons k l il =>
   rw [List.flatMap_cons,List.flatMap_cons,il fun k hk=>hl k (List.mem_cons_of_mem _ hk),Vcc,List.flatMap_cons];have q:=ih k (hl k List.mem_cons_self);unfold locL at q;cases decide (k.kind=38);show (dclD k++k.kids.flatMap ownD)++_=(dclD k++(ownN k).flatMap dclD)++_;rw [q];rfl
 exact e t.kids fun _ h=>h
theorem Jib{α:Type}{f:Nd→List α}:∀ (l:List Nd),(∀ k∈l,(f k).length≤count k)→(l.flatMap f).length≤(l.map count).sum
 | [],_=>Nat.le_refl _
 | k::l,h=>by
  rw [List.flatMap_cons,List.length_append,List.map_cons,List.sum_cons];have:=h k List.mem_cons_self;have:=Jib l fun x hx=>h x (List.mem_cons_of_mem _ hx);omega
def ownE(k:Nd):List Nd:=k::bif decide (k.kind=38) then [] else ownN k
theorem Jjb:∀ t,(ownN t).length+1≤count t:=by
 refine Nd.ind fun t ih=>?_;rw [Zed,Uw,Nat.add_comm];refine Nat.add_le_add_left (Jib _ fun k hk=>?_) 1;have:=ih k hk;rw [List.length_cons];cases decide (k.kind=38);simp only [cond_false];omega;simp only [cond_true,List.length_nil];omega
def ownL(t:Nd)(i:Nat):List Nd:=(t.kids.take i).flatMap ownE
theorem Jbf(t:Nd)(i:Nat):(ownL t i).length≤((t.kids.take i).map count).sum:=Jib _ fun k _=>by
 have:=Jjb k;unfold ownE;rw [List.length_cons];cases decide (k.kind=38);simp only [cond_false];omega;simp only [cond_true,List.length_nil];have:=Un k;omega
theorem Jkg{t:Nd}{i:Nat}(h:i<t.kids.length)(e:decide (t.kids[i].kind=38)=false):ownL t i++[t.kids[i]]++ownN t.kids[i]=ownL t (i+1):=by
 unfold ownL;rw [Yna h,List.flatMap_append,List.append_assoc,List.flatMap_cons,List.flatMap_nil,List.append_nil];unfold ownE;rw [e];rfl
theorem Jlg{t:Nd}{i:Nat}(h:i<t.kids.length)(e:decide (t.kids[i].kind=38)=true):ownL t i++[t.kids[i]]=ownL t (i+1):=by
 unfold ownL;rw [Yna h,List.flatMap_append,List.flatMap_cons,List.flatMap_nil,List.append_nil];unfold ownE;rw [e];rfl
theorem Wle(t:Nd):ownL t t.kids.length=ownN t:=by unfold ownL;rw [List.take_length,Zed];rfl
def RetL(D:Nat→Prop)(ks:List Nd)(r:Value)(w:World):Prop:=Kd w D ks r∧(ks=[]→r = .slice none 0 0)
theorem RetL.slice{D:Nat→Prop}{ks:List Nd}{r:Value}{w:World}(h:RetL D ks r w):∃ p c,r = .slice p ks.length c∧RowS w D ks p:=by
 obtain ⟨⟨p,c,rfl,hc,h1⟩,h2⟩:=h;refine ⟨p,c,rfl,fun e=>?_,fun e=>?_⟩;have:=h2 e;injection this;obtain ⟨b,o,e1,_,xs,h3,h4⟩:=h1 (List.length_pos_iff.2 e);exact ⟨b,o,xs,e1,h3,h4⟩
theorem RowS.mono{w:World}{D D':Nat→Prop}{ls:List Nd}{p:Option Addr}(h:RowS w D ls p)(hD:∀ b,D b→D' b):RowS w D' ls p :=
 ⟨h.1,fun e=>by obtain ⟨b,o,xs,h1,h2,h3⟩:=h.2 e;exact ⟨b,o,xs,h1,h2,h3.mono fun b hb _=>hD b hb⟩⟩
theorem RowS.grow{w w':World}{D:Nat→Prop}{ls:List Nd}{p:Option Addr}(h:RowS w D ls p)(g:G w w'):RowS w' D ls p :=
 ⟨h.1,fun e=>by obtain ⟨b,o,xs,h1,h2,h3⟩:=h.2 e;exact ⟨b,o,xs,h1,h2.grow g,h3.grow g⟩⟩
theorem Jmg{D:Nat→Prop}{n0 n1:Nat}{X:List Nat}{s:Value}{k:Nat}(hk:(D k∧k<n0)∨n1≤k)(h01:n0≤n1)(hX:∀ j∈X,j<n1)(hO:∀ j,s.ownBlock=some j→n0≤j∧j<n1):((D k∧k<n0)∨Dx n0 X k)∧some k≠s.ownBlock:=by
 rcases hk with hk|hk;exact ⟨.inl hk,fun e=>by have:=hO k e.symm;omega⟩;exact ⟨.inr ⟨by omega,fun h=>by have:=hX k h;omega⟩,fun e=>by have:=hO k e.symm;omega⟩
theorem Wxg:∀ (t:Nd) (v:Value) (D:Nat→Prop) (w:World),Kd w D t.kids v→count t≤1000000→Ret PP Ure #[ndV t v] w fun r w'=>RetL (fun b=>D b∨w.heap.size≤b) (ownN t) r w'∧G w w':=by
 refine Nd.ind fun t ih v D w hk hc=>?_;obtain ⟨p,c,rfl,hcap,hks⟩:=hk;have g:=G.refl w;have hlen:=Up t;refine WK 36 [0] Jbd ?_;refine BM fun b1 _ _ _ g E=>?_;refine Yo O (Ze (kq (Zj (Zm (Yo O (Ze (kq (Zj (Zj (Zm (Yo O (Ze (kq (Yv (?_)))))))))))))));have hnd1:=E.1;refine We (fun (x:Nat×Option Addr×Nat) u1=>match x with|⟨i,a,ca⟩=>(i≤t.kids.length∧OwnK Ys (fun b=>(D b∧b<w.heap.size)∨Dx w.heap.size [b1] b) w.heap.size u1 (ownL t i) (.slice a (ownL t i).length ca)∧(ownL t i=[]→Value.slice a (ownL t i).length ca = .slice none 0 0))∧G w u1) _ [(1,True,_),(2,True,_)] (fun (x:Nat×Option Addr×Nat)=>match x with|⟨i,a,ca⟩=>[(3,True,.slice a (ownL t i).length ca),(4,True,.int .i64 i)]) (fun (x:Nat×Option Addr×Nat)=>match x with|⟨i,a,ca⟩=>t.kids.length-i) ((0,none,0)) ⟨⟨Nat.zero_le _,Wxc _ _ _ _,fun _=>rfl⟩,g⟩ (Zs (blkE E.g0) (Yh _)) (Za rfl (Za rfl (Za rfl (Za rfl (Zp _))))) ?_;clear E;rintro ⟨i,a,ca⟩ u1 ⟨hI1,gl1⟩ ⟨B1,_⟩;replace B1:Blk _ _ _ _:=B1;have g:=gl1;obtain ⟨hi,hO,hE⟩:=hI1;have E:=Zha (L:=[(b1,_,_)]) hnd1 ⟨B1,trivial⟩ rfl;refine Zj (Zj (Zm (Zq O (Yj Zg O (Yq Zf O (E.g0.at_ O) (Xla Zd O (Xka O O (Ze (kq (Wm O (fun h1=>?_) (fun h1=>?_)))))))))));replace h1:i<t.kids.length:=by simp only [decide_eq_true_eq] at h1;omega
 obtain ⟨b,o,rfl,hD,xs,hR,hX⟩:=hks (by omega);obtain ⟨p',c',hcell,hkid⟩:=Xjb hR hX h1;have hck:=Zsa h1;have hcl:=Jbf t i;have hll:=Jjb t.kids[i];have hu:=g.size;refine Ya (kq (Zj (Yv (Zj (Zm (Zq O (Yj Zg O (Yq Zf O (E.g0.at_ O) (Zq O (Zfb Zd O O (by omega) (Vf Zh O O (hcell.grow g) (CN fun _ _ ga _ g E=>?_))))))))))));have hO:=Ui hO;have hOo:=hO;refine Jza O Zd Zu O (Zc O) hO (Zc O) O E.g0.row (Yc ((hkid.old g).mono fun k hk _=>⟨.inl hk,fun he=>by have:=hO.ge k he.symm;omega⟩)) (by first|omega|(simp;omega)) (by have:=g.size;omega) (.inr ⟨by have:=g.size;omega,by have:=E.g1.lt;simp;omega⟩) ?_;intro a19 c19 w19 hO hg19;replace E:=E.sel [false,true];replace E:=E.keep hg19 (List.forall_mem_cons.2 ⟨(hOo.ne (by rintro (h|h);exact absurd h.2 (by omega);simp [Dx] at h)),List.forall_mem_nil _⟩);have g:=Jh g hg19 (fun k hk=>hOo.ge k hk);have hE:ownL t i++[t.kids[i]]=[]→Value.slice a19 (ownL t i++[t.kids[i]]).length c19 = .slice none 0 0:=fun e=>absurd e (by simp);refine Yo O (Ze (kq (Zj (Zm (Yj Zg O (Yq Zf O (E.g0.at_ O) (Zq O (Zfb Zd O O (by omega) (Yj Xm O (Yq Yd O ((hcell.grow g).one (i:=0) O) (Zud O O (Ze (kq (Wm O (fun h2=>?_) (fun h2=>?_)))))))))))))));replace h2:decide (t.kids[i].kind=38)=false:=by simpa using h2
 refine Zm (?_);have hOlt:=hO.lt;have hOge:=hO.ge;have hB1lt:=E.g0.lt;refine Zq O (Yj Zg O (Yq Zf O (E.g0.at_ O) (Zq O (Zfb Zd O O (by omega) (Vf Zh O O (hcell.grow g) (CL (ih _ (List.getElem_mem h1) _ (fun b=>D b∧b<w.heap.size) _ (hkid.old g) (by omega)) ?_))))));rintro v33 w33 ⟨hr33,g33⟩;refine ⟨fun _=>g33,?_⟩;obtain ⟨p2,c2,rfl,hS⟩:=hr33.slice;have hs0:=g.size;have g:=g.trans g33;replace E:=E.grow g33;have hO:=hO.grow (g33);have hOo:=hO;refine Qle O Zd Zu O (Zc O) hO hE (Zc O) (hS.mono fun k hk=>Jmg hk hs0 (by simp;omega) fun j hj=>⟨hOge j hj,hOlt j hj⟩) (by first|omega|(simp;omega)) (by have:=g.size;omega) (.inr ⟨by have:=g.size;omega,by have:=E.g0.lt;simp;omega⟩) ?_;intro a34 c34 w34 hO hE hg34;replace E:=E.keep hg34 (List.forall_mem_cons.2 ⟨(hOo.ne (by rintro (h|h);exact absurd h.2 (by omega);simp [Dx] at h)),List.forall_mem_nil _⟩);have g:=Jh g hg34 (fun k hk=>hOo.ge k hk);refine AU ?_;refine SK [3,4,1,2] ?_;refine Ze (fun a ha=>?_);rw [Jkg h1 h2] at ha hO hE;exact ⟨(i+1,a34,c34),ha,⟨⟨h1,hO,hE⟩,g⟩,(Zs (blkE E.g0) (Yh _)),by show t.kids.length-(i+1)<t.kids.length-i;omega⟩;replace h2:decide (t.kids[i].kind=38)=true:=by simpa using h2
 refine AU ?_;refine SK [3,4,1,2] ?_;refine Ze (fun a ha=>?_);rw [Jlg h1 h2] at ha hO hE;exact ⟨(i+1,a19,c19),ha,⟨⟨h1,hO,hE⟩,g⟩,(Zs (blkE E.g0) (Yh _)),by show t.kids.length-(i+1)<t.kids.length-i;omega⟩;replace h1:i=t.kids.length:=by simp only [decide_eq_false_iff_not] at h1;omega
 subst h1;rw [Wle] at hO hE;refine RTN ?_;rw [Wle];exact ⟨⟨hO.kd fun b hb=>hb.elim (fun h=>.inl h.1) (fun h=>.inr h.1),hE⟩,g⟩
def fnB(t:Nd):Bool:=decide (t.kind=4) || decide (t.kind=38)
theorem Vdc(t:Nd)(v:Value)(w:World):Ret PP Qlc #[ndV t v] w fun r w'=>r = .bool (fnB t)∧G w w':=by
 have g:=G.refl w;refine WK 11 [0] Wfc ?_;refine BM fun _ _ _ _ g E=>?_;refine RTN ?_;exact ⟨rfl,g⟩
theorem Wyg(l:List (Int×Int))(c:Int×Int)(v:Value)(w:World)(h:RowF capCells w l v)(hl:l.length≤1000000):Ret PP Zyd #[v,.agg (capCells c).toArray] w fun r w'=>r = .bool (decide (c∈l))∧G w w':=by
 have h0:=h;obtain ⟨p,q,rfl,hq,_⟩:=h;have g:=G.refl w;refine WK 18 [0,1] Qwd ?_;refine BM fun b3 _ _ _ g E=>?_;refine AU ?_;have hnd1:=E.1;refine We (fun (i:Nat) u1=>(i≤l.length∧c∉l.take i)∧G w u1) _ [(0,True,_),(3,True,_)] (fun (i:Nat)=>[(5,True,.int .i64 i)]) (fun (i:Nat)=>l.length-i) (0) ⟨⟨Nat.zero_le _,by simp⟩,g⟩ (Zs (blkE E.g0) (Yh _)) (Za O (Za O (Za O (Zp _)))) ?_;clear E;rintro i u1 ⟨hI1,gl1⟩ ⟨B3,_⟩;replace B3:Blk _ _ _ _:=B3;have g:=gl1;obtain ⟨hi,hn⟩:=hI1;have E:=Zha (L:=[(b3,_,_)]) hnd1 ⟨B3,trivial⟩ rfl;refine IF (fun h1=>?_) fun h1=>?_;replace h1:i<l.length:=by simp only [decide_eq_true_eq] at h1;omega
 obtain ⟨hpe,hcell⟩:=(h0.grow g).opt Zea h1;refine AU ?_;refine Xe [3,3,3,0,0,3] [true,true,true,true,true,true] [0,0,3,7,0,31] mix (by kernel_rfl) ?_;have g:=gdr g;replace E:=E.dr;refine IF (fun h2=>?_) fun h2=>?_;replace h2:l[i]=c:=by simpa [Prod.ext_iff] using h2
 refine RTN ?_;exact ⟨by rw [Ywh (h2▸List.getElem_mem h1)],g⟩;replace h2:l[i]≠c:=fun e=>by subst e;simp at h2
 refine AU ?_;refine SK [5,0,3] ?_;refine Ze (fun a ha=>?_);exact ⟨i+1,ha,⟨⟨h1,by rw [Yna h1,List.mem_append,List.mem_singleton];exact fun h=>h.elim hn fun e=>h2 e.symm⟩,g⟩,(Zs (blkE E.g0) (Yh _)),by omega⟩;replace h1:i=l.length:=by simp only [decide_eq_false_iff_not] at h1;omega
 subst h1;refine RTN ?_;rw [List.take_length] at hn;exact ⟨by rw [Yvh hn],g⟩
def dirN(t:Nd):List Nd:=(ownN t).filter fun k=>decide (k.kind=38)
def dirT(t:Nd):List Nd:=bif fnB t then dirN t else []
theorem Zvb{α:Type}{p:α→Bool}{l:List α}{i:Nat}(h:i<l.length):(l.take (i+1)).filter p=(l.take i).filter p++(bif p l[i] then [l[i]] else []):=by
 rw [Yna h,List.filter_append];cases hp:p l[i];rw [List.filter_cons_of_neg (by rw [hp];decide)];rfl;rw [List.filter_cons_of_pos hp];rfl
theorem Xqd{α:Type}{p:α→Bool}{l:List α}{i:Nat}:((l.take i).filter p).length≤i:=by
 have:=List.length_filter_le p (l.take i);have:=List.length_take_le i l;omega
theorem Kd.opt1{w:World}{D:Nat→Prop}{ls:List Nd}{p:Option Addr}{c:Nat}(hk:Kd w D ls (.slice p ls.length c)){i:Nat}(h:i<ls.length):p=some ⟨pb p,po p,none⟩∧∃ p' c',RowAt w (pb p) (po p+i*9) (ndCells ls[i] (.slice p' ls[i].kids.length c'))∧Kd w D ls[i].kids (.slice p' ls[i].kids.length c'):=by
 obtain ⟨h1,p',c',h2,h3⟩:=Yk (t:=.mk 0 [] 0 0 ls ty0 0 0) hk h;have e:Zb (.mk 0 [] 0 0 ls ty0 0 0) i=ls[i]:=Wg (t:=.mk 0 [] 0 0 ls ty0 0 0) h;rw [e] at h2 h3;exact ⟨h1,p',c',h2,h3⟩
theorem Qve(t:Nd)(v:Value)(D:Nat→Prop)(w:World)(hk:Kd w D t.kids v)(hc:count t≤1000000):Ret PP Wtd #[ndV t v] w fun r w'=>Kd w' (fun b=>D b∨w.heap.size≤b) (dirT t) r∧G w w':=by
 have hln:=Jjb t;have hk0:Kd w (fun b=>D b∧b<w.heap.size) t.kids v:=hk.lt;have g:=G.refl w;refine WK 31 [0] Qjc ?_;refine BM fun _ _ _ _ g E=>?_;refine AU ?_;refine CP (Vdc t v _) (fun w7 g7=>?_);have g:=g.trans g7;replace E:=E.grow g7;refine IF (fun h1=>?_) fun h1=>?_;replace h1:fnB t=false:=by simpa using h1
 refine RTN ?_;unfold dirT;rw [h1];exact ⟨Jya _ _,g⟩;replace h1:fnB t=true:=by simpa using h1
 have hT:dirT t=dirN t:=by unfold dirT;rw [h1];rfl
 refine AU ?_;refine CL (Wxg t v (fun b=>D b∧b<w.heap.size) _ (hk0.grow g) hc) ?_;rintro v10 w10 ⟨⟨hk10,_⟩,g10⟩;refine ⟨fun _=>g10,?_⟩;have hlw:w.heap.size≤w10.heap.size:=(g.trans g10).size;have hk10:Kd w10 (fun b=>(D b∨w.heap.size≤b)∧b<w10.heap.size) (ownN t) v10:=(hk10.mono fun b hb _=>hb.elim (fun h=>.inl h.1) fun h=>.inr (Nat.le_trans g.size h)).lt;have g:=g.trans g10;obtain ⟨n1,hn1⟩:∃ n,n=w10.heap.size:=⟨_,rfl⟩;rw [← hn1] at hk10 hlw;obtain ⟨p10,c10,rfl,_⟩:=id hk10;replace E:=E.grow g10;refine AU ?_;replace E:=E.sel [false];refine We (fun (x:Nat×Option Addr×Nat) u1=>match x with|⟨i,sa,ca⟩=>(i≤(ownN t).length∧n1≤u1.heap.size∧Kd u1 (fun b=>(D b∨w.heap.size≤b)∧b<n1) (ownN t) (.slice p10 (ownN t).length c10)∧OwnK Ys (fun b=>(D b∨w.heap.size≤b)) n1 u1 (((ownN t).take i).filter fun k=>decide (k.kind=38)) (.slice sa (((ownN t).take i).filter fun k=>decide (k.kind=38)).length ca))∧G w u1) _ [(2,True,_),(4,True,_)] (fun (x:Nat×Option Addr×Nat)=>match x with|⟨i,sa,ca⟩=>[(3,True,.slice sa (((ownN t).take i).filter fun k=>decide (k.kind=38)).length ca),(5,True,.int .i64 i)]) (fun (x:Nat×Option Addr×Nat)=>match x with|⟨i,sa,ca⟩=>(ownN t).length-i) ((0,none,0)) ⟨⟨Nat.zero_le _,Nat.le_of_eq hn1,hk10,Wxc _ _ _ _⟩,g⟩ (Yh _) (Za O (Za O (Za O (Za O (Zp _))))) ?_;rintro ⟨i,sa,ca⟩ u1 ⟨hI1,gl1⟩ _;have g:=gl1;obtain ⟨hi,hnu,hk10,hO⟩:=hI1;have hfl:=Xqd (p:=fun k=>decide (k.kind=38)) (l:=ownN t) (i:=i);refine IF (fun h2=>?_) fun h2=>?_;replace h2:i<(ownN t).length:=by simp only [decide_eq_true_eq] at h2;omega
 obtain ⟨hpe,p',c',hcell,hkid⟩:=hk10.opt1 h2;have hks:=hk10;have gz:=G.refl u1;refine IF (fun h3=>?_) fun h3=>?_;replace h3:decide ((ownN t)[i].kind=38)=true:=h3;have ef:=Zvb (p:=fun k=>decide (k.kind=38)) h2;rw [h3] at ef;refine CM fun _ _ N28 _ g E=>?_;have hO:=hO.grow (N28.g);have hkid:=hkid.grow N28.g;have hb28:=E.g0.lt;have hs28:=N28.g.size;have hOo:=hO;refine Jza O Zd Zu O (Zc O) hO (Zc O) O E.g0.row (Yc (hkid.mono fun k hk _=>⟨hk.1,fun he=>by have:=hO.ge k he.symm;omega⟩)) (by first|omega|(simp;omega)) (by have:=g.size;omega) (.inr (by have:=g.size;omega)) ?_;intro a29 c29 w29 hO hg29;replace E:=E.sel [false];have g:=Jh g hg29 (fun k hk=>(by have:=hOo.ge k hk;omega));refine AU ?_;refine SK [3,5,2,4] ?_;refine Ze (fun a ha=>?_);rw [show ((ownN t).take i).filter (fun k=>decide (k.kind=38))++[(ownN t)[i]]=((ownN t).take (i+1)).filter (fun k=>decide (k.kind=38)) from ef.symm] at ha hO;exact ⟨(i+1,a29,c29),ha,⟨⟨h2,by have:=hg29.size;have:=N28.g.size;omega,(hks.grow N28.g).keep hg29 (fun k hk _ he=>by have:=hOo.ge k he.symm;omega),hO⟩,g⟩,(Yh _),by show (ownN t).length-(i+1)<(ownN t).length-i;omega⟩;replace h3:decide ((ownN t)[i].kind=38)=false:=h3;have ef:=Zvb (p:=fun k=>decide (k.kind=38)) h2;rw [h3,cond_false,List.append_nil] at ef;refine AU ?_;refine SK [3,5,2,4] ?_;refine Ze (fun a ha=>?_);rw [← ef] at ha hO;exact ⟨(i+1,sa,ca),ha,⟨⟨h2,hnu,hk10,hO⟩,g⟩,(Yh _),by show (ownN t).length-(i+1)<(ownN t).length-i;omega⟩;replace h2:i=(ownN t).length:=by simp only [decide_eq_false_iff_not] at h2;omega
 subst h2;rw [List.take_length] at hO;refine RTN ?_;rw [hT,List.take_length];exact ⟨hO.kd fun b hb=>hb,g⟩
def GV(V:Nat→Prop)(w w':World):Prop:=GB V w w'
section
variable {V V1 V2:Nat→Prop} {w w' w0 A C:World}
theorem GV.refl(V:Nat→Prop)(w:World):GV V w w:=GB.refl V w
theorem GV.trans(h:GV V w0 w)(k:GV V w w'):GV V w0 w':=GB.trans h k
theorem GV.size(h:GV V w w'):w.heap.size≤w'.heap.size:=GB.size h
theorem GV.of_g(h:G w w'):GV V w w':=GB.of_g h
theorem Zwb{b:Nat}(h:GV V w0 w)(hg:w.grownBy w' (some b))(hb:w0.heap.size≤b):GV V w0 w':=Zkf h hg (.inr hb)
theorem Ywc{b:Nat}(h:GV V w0 w)(hg:w.grownBy w' (some b))(hb:V b):GV V w0 w':=Zkf h hg (.inl hb)
theorem Xrd{row:Option Nat}(h:GV V w0 w)(hg:w.grownBy w' row)(hr:∀ k,row=some k→V k):GV V w0 w':=GB.trans h (GB.of_only hg hr)
theorem Zfd(h:GV V w0 w)(hs:∀ k,V1 k→V k∨w0.heap.size≤k)(k:GV V1 w w'):GV V w0 w' :=
 ⟨k.os.trans h.os,k.tape.trans h.tape,k.output.trans h.output,Nat.le_trans h.size k.size,fun j hj hn=>(k.block j (Nat.lt_of_lt_of_le hj h.size) (fun hv=>(hs j hv).elim hn (by omega))).trans (h.block j hj hn)⟩
theorem nsub{n b:Nat}(h:∀ k,V2 k→V1 k∨n≤k)(hb:b<n)(h1:¬ V1 b):¬ V2 b:=fun h2=>(h b h2).elim h1 (by omega)
theorem vsub{n m:Nat}(h:∀ k,V2 k→V1 k∨n≤k)(hn:m≤n)(h1:∀ k,V1 k→V k∨m≤k):∀ k,V2 k→V k∨m≤k:=fun k hk=>(h k hk).elim (h1 k) fun q=>.inr (by omega)
theorem Blk.gv{b:Nat}{e:TypeId}{l:List Value}(h:Blk w b e l)(g:GV V w w')(hb:¬ V b):Blk w' b e l:=Blk.gb h g hb
theorem Kd.gv{D:Nat→Prop}{ks:List Nd}{v:Value}(h:Kd w D ks v)(g:GV V w w')(hD:∀ b,D b→¬ V b):Kd w' D ks v:=Zma h (fun _ h _=>h) fun b hb hlt=>GB.block g b hlt (hD b hb)
theorem Obk.gv{L:List (Nat×TypeId×List Value)}(E:Obk w L)(g:GV V w w')(h:∀ b∈L.map Prod.fst,¬ V b):Obk w' L :=
 ⟨E.1,Uma E.2 fun b e l hm hB=>hB.gv g (h b (List.mem_map_of_mem (f:=Prod.fst) hm))⟩
end
structure VisJ (vf:FuncId) (vcs:Array Value) (D:Nat→Prop) (n0:Nat) (Q:Nd×Int→Prop) (J:List (Nd×Int)→(Nat→Prop)→World→Prop):Prop where
  go:goFn PP vf=true
  g:∀ pre V A C,J pre V A→G A C→J pre V C
  keep:∀ pre V A C b,J pre V A→A.grownBy C (some b)→¬ V b→n0≤b→J pre V C
  lt:∀ pre V A,J pre V A→∀ k,V k→k<A.heap.size
  st:∀ pre x V A p c,Q x→pre.length<1000000→J pre V A→n0≤A.heap.size→(∀ k,D k→¬ V k)→Kd A D x.1.kids (.slice p x.1.kids.length c)→
    Ret PP vf (#[] ++ #[ndV x.1 (.slice p x.1.kids.length c),.int .i64 x.2]++vcs) A fun _ A'=>∃ V',J (pre++[x]) V' A'∧(∀ k,V' k→V k∨A.heap.size≤k)∧GV V A A'
def visK(t:Nd)(v:Int)(i:Nat):List (Nd×Int):=(t.kids.take i).flatMap fun k=>(k,v)::visN k (upL k v)
theorem Uwd{t:Nd}{v:Int}{i:Nat}(h:i<t.kids.length):visK t v i++[(t.kids[i],v)]++visN t.kids[i] (upL t.kids[i] v)=visK t v (i+1):=by
 unfold visK;rw [Yna h,List.flatMap_append,List.append_assoc,List.flatMap_cons,List.flatMap_nil,List.append_nil];rfl
theorem Jcf(t:Nd)(v:Int):visK t v t.kids.length=visN t v:=by unfold visK;rw [List.take_length,Xja]
theorem Xsd{α:Type}{f:Nd→List α}:∀ (l:List Nd),(∀ k∈l,(f k).length=count k)→(l.flatMap f).length=(l.map count).sum
 | [],_=>rfl
 | k::l,h=>by
  rw [List.flatMap_cons,List.length_append,List.map_cons,List.sum_cons,h k List.mem_cons_self,Xsd l fun x hx=>h x (List.mem_cons_of_mem _ hx)]
theorem Xtd:∀ t v,(visN t v).length+1=count t:=by
 refine Nd.ind fun t ih v=>?_;rw [Xja,Uw,Nat.add_comm,Xsd];intro k hk;exact ih k hk _
theorem Jdf(t:Nd)(v:Int)(i:Nat):(visK t v i).length=((t.kids.take i).map count).sum:=Xsd _ fun k _=>Xtd k _
theorem Wzg{t:Nd}{v:Int}{i:Nat}(h:i<t.kids.length):(t.kids[i],v)∈visN t v∧∀ x∈visN t.kids[i] (upL t.kids[i] v),x∈visN t v:=by
 rw [Xja];exact ⟨List.mem_flatMap.2 ⟨_,List.getElem_mem h,List.mem_cons_self⟩,fun x hx=>List.mem_flatMap.2 ⟨_,List.getElem_mem h,List.mem_cons_of_mem _ hx⟩⟩
section
variable {vf:FuncId} {vcs:Array Value} {D:Nat→Prop} {n0 c2 c3:Nat} {Q:Nd×Int→Prop} {J:List (Nd×Int)→(Nat→Prop)→World→Prop}
set_option maxHeartbeats 1000000 in
theorem Wif(Y:VisJ vf vcs D n0 Q J)(hDn:∀ k,D k→k<n0):∀ (t:Nd) (v:Value) (pre:List (Nd×Int)) (lev:Int) (V:Nat→Prop) (w:World),n0≤w.heap.size→
 Blk w c2 Zia [.func (.func vf) #[] vcs]→Blk w c3 Zia [.func (.func Vla) #[] #[.pointer (some ⟨c2,0,none⟩),.pointer (some ⟨c3,0,none⟩)]]→¬ V c2→¬ V c3→(∀ k,D k→¬ V k)→
 Kd w D t.kids v→J pre V w→(∀ x∈visN t lev,Q x)→count t≤1000000→pre.length+count t≤1000000→0≤lev→lev+count t≤2000000→
 Ret PP Vla #[ndV t v,.int .i64 lev,.pointer (some ⟨c2,0,none⟩),.pointer (some ⟨c3,0,none⟩)] w fun r w'=>∃ V',J (pre++visN t lev) V' w'∧(∀ k,V' k→V k∨w.heap.size≤k)∧GV V w w':=by
 refine Nd.ind fun t ih v pre lev V w hn hc2 hc3 m2 m3 hd hk hj hQ hcn hpl h0 hlc=>?_;obtain ⟨p,c,rfl,hcap,hks⟩:=hk;have hk0:Kd w D t.kids (.slice p t.kids.length c):=⟨p,c,rfl,hcap,hks⟩;have g:=GV.refl V w;have hlen:=Up t;refine WK 31 [0,1,2,3] Znc ?_;refine AU ?_;refine Via O (Zc O) O ?_;intro b4 w4 N4;have l4:=Zza N4 g.size;first|have n4:¬ V1 b4:=fun h=>by have:=Y.lt _ _ _ hj _ h;have:=N4.at_;omega|have n4:¬ V b4:=fun h=>by have:=Y.lt _ _ _ hj _ h;have:=N4.at_;omega
 have g:=g.trans (GV.of_g (N4.g));have hc2:=hc2.grow (N4.g);have hc3:=hc3.grow (N4.g);have hk0:=hk0.grow (N4.g);have hj:=Y.g _ _ _ _ hj (N4.g);have hn:=Nat.le_trans hn (G.size (N4.g));have E:=(Xna _).new N4;refine AU ?_;have hnd1:=E.1;refine We (fun (x:Nat×(Nat→Prop)) u1=>match x with|⟨i,V1⟩=>(i≤t.kids.length∧n0≤u1.heap.size∧Blk u1 c2 Zia [.func (.func vf) #[] vcs]∧Blk u1 c3 Zia [.func (.func Vla) #[] #[.pointer (some ⟨c2,0,none⟩),.pointer (some ⟨c3,0,none⟩)]]∧¬ V1 c2∧¬ V1 c3∧(∀ k,D k→¬ V1 k)∧Kd u1 D t.kids (.slice p t.kids.length c)∧J (pre++visK t lev i) V1 u1∧(∀ k,V1 k→V k∨w.heap.size≤k)∧¬ V1 b4)∧GV V w u1) _ [(1,True,_),(2,True,_),(3,True,_),(10,True,_),(11,True,_)] (fun (x:Nat×(Nat→Prop))=>match x with|⟨i,V1⟩=>[(12,True,.int .i64 i)]) (fun (x:Nat×(Nat→Prop))=>match x with|⟨i,V1⟩=>t.kids.length-i) ((0,V)) ⟨⟨Nat.zero_le _,hn,hc2,hc3,m2,m3,hd,hk0,by rw [show visK t lev 0=[] from rfl,List.append_nil];exact hj,fun k hk=>.inl hk,n4⟩,g⟩ (Zs (blkE E.g0) (Yh _)) (Za O (Za O (Za O (Za O (Za O (Za O (Zp _))))))) ?_;clear E;rintro ⟨i,V1⟩ u1 ⟨hI1,gl1⟩ ⟨B4,_⟩;replace B4:Blk _ _ _ _:=B4;have g:=gl1;clear hn hc2 hc3 m2 m3 hd hk0 hj n4;obtain ⟨hi,hn,hc2,hc3,m2,m3,hd,hk0,hj,hs,n4⟩:=hI1;have hlt2:=hc2.lt;have hlt3:=hc3.lt;have E:=Zha (L:=[(b4,_,_)]) hnd1 ⟨B4,trivial⟩ rfl;refine IF (fun h1=>?_) fun h1=>?_;replace h1:i<t.kids.length:=by simp only [decide_eq_true_eq] at h1;omega
 obtain ⟨hpe,p',c',hcell,hkid⟩:=hk0.opt1 h1;have hck:=Zsa h1;obtain ⟨hq1,hq2⟩:=Wzg (v:=lev) h1;have hvl:=Jdf t lev i;refine Ya (kq (Zj (Yv (Zj (Zm (Jm Zd O O (by omega) hpe (Vf Zh O O hcell (Jg O Zu O ?_))))))));intro b7 w7 N7;have l7:=Zza N7 g.size;first|have n7:¬ V1 b7:=fun h=>by have:=Y.lt _ _ _ hj _ h;have:=N7.at_;omega|have n7:¬ V b7:=fun h=>by have:=Y.lt _ _ _ hj _ h;have:=N7.at_;omega
 have g:=g.trans (GV.of_g (N7.g));have hc2:=hc2.grow (N7.g);have hc3:=hc3.grow (N7.g);have hk0:=hk0.grow (N7.g);have hkid:=hkid.grow (N7.g);have hj:=Y.g _ _ _ _ hj (N7.g);have hn:=Nat.le_trans hn (G.size (N7.g));replace E:=E.new N7;refine Ymb Jf O O O E.g0 ?_;intro wS1 hgS1 _ BS;replace E:=E.s0 hgS1 BS;have g:=Zwb g hgS1 (by omega);have hc2:=hc2.keep hgS1 (by intro h;injection h with h;have:=N7.at_;omega);have hc3:=hc3.keep hgS1 (by intro h;injection h with h;have:=N7.at_;omega);have hk0:=hk0.keep hgS1 (fun b hb _ he=>by injection he with he;have:=hDn b hb;have:=N7.at_;omega);have hkid:=hkid.keep hgS1 (fun b hb _ he=>by injection he with he;have:=hDn b hb;have:=N7.at_;omega);have hj:=Y.keep _ _ _ _ _ hj hgS1 n7 (by have:=N7.at_;omega);have hn:=Nat.le_trans hn hgS1.size;have hb4:=E.g1.lt;have hb7:=E.g0.lt;refine Ze (kq (Zj (Zm (Yq Jy O (hc2.at_ O) (Vf Zh O O E.g0.row (Zq O (Xva O (Yl Y.go (Zc O) (aqc O (aqc O aq0)) O) (Y.st _ (t.kids[i],lev) V1 _ _ _ (hQ _ hq1) (by rw [List.length_append];omega) hj hn hd hkid) ?_)))))));rintro v19 w19 ⟨V2,hj2,hs2,g19⟩;refine ⟨nw1,?_⟩;replace E:=E.gv g19 (List.forall_mem_cons.2 ⟨n7,List.forall_mem_cons.2 ⟨n4,List.forall_mem_nil _⟩⟩);have m2':=nsub hs2 hc2.lt m2;have m3':=nsub hs2 hc3.lt m3;have hd':∀ k,D k→¬ V2 k:=fun k hk=>nsub hs2 (Nat.lt_of_lt_of_le (hDn k hk) hn) (hd k hk);have n4':=nsub hs2 hb4 n4;have n7':=nsub hs2 hb7 n7;have hs':=vsub hs2 g.size hs;have g:=Zfd g hs g19;replace hc2:=hc2.gv g19 m2;replace hc3:=hc3.gv g19 m3;replace hk0:=hk0.gv g19 hd;replace hkid:=hkid.gv g19 hd;replace hn:=Nat.le_trans hn g19.size;have hj:=hj2;have hb4:=E.g1.lt;have hb7:=E.g0.lt
 refine Ze (kq (Zj (Zm (Zq O (Yo O (Ze (kq (Zj (Zj (Zm (Yj Xm O (Yq Yd O (E.g0.at_ O) (Zwa O O (Ze (kq (Wm O (fun h2=>?_) (fun h2=>?_)))))))))))))))));have e2:upL t.kids[i] lev=lev+1:=by unfold upL;rw [show decide (t.kids[i].kind=38)=true from h2];rfl
 refine Zm (Zq O (Qqa O O (by omega) (Yo O (Ze (kq (Zm (Yq Jy O (hc3.at_ O) (Vf Zh O O E.g0.row (Zq O (Xva O (Yl Vma (Zc O) (aqc O (aqc O aq0)) O) (ih _ (List.getElem_mem h1) _ _ _ V2 _ hn hc2 hc3 m2' m3' hd' hkid hj (fun x hx=>hQ x (hq2 x (by rw [e2];exact hx))) (by omega) (by simp only [List.length_append,List.length_singleton];omega) (by omega) (by omega)) ?_))))))))));rintro v29 w29 ⟨V3,hj3,hs3,g29⟩;refine ⟨nw1,?_⟩;replace E:=E.gv g29 (List.forall_mem_cons.2 ⟨n7',List.forall_mem_cons.2 ⟨n4',List.forall_mem_nil _⟩⟩);have hd3:∀ k,D k→¬ V3 k:=fun k hk=>nsub hs3 (Nat.lt_of_lt_of_le (hDn k hk) hn) (hd' k hk);have m23:=nsub hs3 hc2.lt m2';have m33:=nsub hs3 hc3.lt m3';have n43:=nsub hs3 hb4 n4';have hs4:=vsub hs3 g.size hs';have g:=Zfd g hs' g29;replace hc2:=hc2.gv g29 m2';replace hc3:=hc3.gv g29 m3';replace hk0:=hk0.gv g29 hd';replace hn:=Nat.le_trans hn g29.size;have hj3:J (pre++visK t lev (i+1)) V3 w29:=by rw [← Uwd h1,e2];simpa [List.append_assoc] using hj3
 refine Ze (kq (Zm (Qqa O O (by omega) (Zq O (Vc [(12,_,_),(1,_,_),(2,_,_),(3,_,_),(10,_,_),(11,_,_)] (Za O (Za O (Za O (Za O (Za O (Za O (Zp _))))))) (Ze (fun a ha=>?_)))))));exact ⟨(i+1,V3),ha,⟨⟨h1,hn,hc2,hc3,m23,m33,hd3,hk0,hj3,hs4,n43⟩,g⟩,(Zs (blkE E.g1) (Yh _)),by show t.kids.length-(i+1)<t.kids.length-i;omega⟩;have e2:upL t.kids[i] lev=lev:=by unfold upL;rw [show decide (t.kids[i].kind=38)=false from h2];rfl
 refine Ya (kq (Zm (Yq Jy O (hc3.at_ O) (Vf Zh O O E.g0.row (Zq O (Xva O (Yl Vma (Zc O) (aqc O (aqc O aq0)) O) (ih _ (List.getElem_mem h1) _ _ _ V2 _ hn hc2 hc3 m2' m3' hd' hkid hj (fun x hx=>hQ x (hq2 x (by rw [e2];exact hx))) (by omega) (by simp only [List.length_append,List.length_singleton];omega) (by omega) (by omega)) ?_))))));rintro v29 w29 ⟨V3,hj3,hs3,g29⟩;refine ⟨nw1,?_⟩;replace E:=E.gv g29 (List.forall_mem_cons.2 ⟨n7',List.forall_mem_cons.2 ⟨n4',List.forall_mem_nil _⟩⟩);have hd3:∀ k,D k→¬ V3 k:=fun k hk=>nsub hs3 (Nat.lt_of_lt_of_le (hDn k hk) hn) (hd' k hk);have m23:=nsub hs3 hc2.lt m2';have m33:=nsub hs3 hc3.lt m3';have n43:=nsub hs3 hb4 n4';have hs4:=vsub hs3 g.size hs';have g:=Zfd g hs' g29;replace hc2:=hc2.gv g29 m2';replace hc3:=hc3.gv g29 m3';replace hk0:=hk0.gv g29 hd';replace hn:=Nat.le_trans hn g29.size;have hj3:J (pre++visK t lev (i+1)) V3 w29:=by rw [← Uwd h1,e2];simpa [List.append_assoc] using hj3
 refine AU ?_;refine SK [12,1,2,3,10,11] ?_;refine Ze (fun a ha=>?_);exact ⟨(i+1,V3),ha,⟨⟨h1,hn,hc2,hc3,m23,m33,hd3,hk0,hj3,hs4,n43⟩,g⟩,(Zs (blkE E.g1) (Yh _)),by show t.kids.length-(i+1)<t.kids.length-i;omega⟩;replace h1:i=t.kids.length:=by simp only [decide_eq_false_iff_not] at h1;omega
 subst h1;rw [Jcf] at hj;refine Qs O (Qj O ?_);exact ⟨V1,hj,hs,g⟩
theorem Xud(Y:VisJ vf vcs D n0 Q J)(hDn:∀ k,D k→k<n0)(t:Nd)(v:Value)(V:Nat→Prop)(w:World)(hn:n0≤w.heap.size)(hd:∀ k,D k→¬ V k)(hk:Kd w D t.kids v)(hj:J [] V w)(hQ:∀ x∈visN t 0,Q x)(hcn:count t≤1000000) :
 Ret PP Qkc #[ndV t v,.func (.func vf) #[] vcs] w fun r w'=>∃ V',J (visN t 0) V' w'∧(∀ k,V' k→V k∨w.heap.size≤k)∧GV V w w':=by
 have g:=GV.refl V w;refine WK 9 [0,1] Wec ?_;refine AU ?_;refine Via O (Zc O) O ?_;intro b2 w2 N2;have l2:=Zza N2 g.size;have n2:¬ V b2:=fun h=>by have:=Y.lt _ _ _ hj _ h;have:=N2.at_;omega
 have g:=g.trans (GV.of_g (N2.g));have hk:=hk.grow (N2.g);have hj:=Y.g _ _ _ _ hj (N2.g);have hn:=Nat.le_trans hn (G.size (N2.g));have E:=(Xna _).new N2;refine Via O (Zc O) O ?_;intro b3 w3 N3;have l3:=Zza N3 g.size;have n3:¬ V b3:=fun h=>by have:=Y.lt _ _ _ hj _ h;have:=N3.at_;omega
 have g:=g.trans (GV.of_g (N3.g));have hk:=hk.grow (N3.g);have hj:=Y.g _ _ _ _ hj (N3.g);have hn:=Nat.le_trans hn (G.size (N3.g));replace E:=E.new N3;refine Ze (kq (Zj (Zm (Jg O Vsa O ?_))));intro b4 w4 N4;have l4:=Zza N4 g.size;have n4:¬ V b4:=fun h=>by have:=Y.lt _ _ _ hj _ h;have:=N4.at_;omega
 have g:=g.trans (GV.of_g (N4.g));have hk:=hk.grow (N4.g);have hj:=Y.g _ _ _ _ hj (N4.g);have hn:=Nat.le_trans hn (G.size (N4.g));replace E:=E.new N4;refine Ze (kq (Zj (Zm (Zo O (fun _=>Jwc (aq0) (aqc O (aqc O aq0))) (Ymb Vra O O O E.g0 ?_)))));intro wS1 hgS1 _ BS;replace E:=E.s0 hgS1 BS;have g:=Zwb g hgS1 (by omega);have hk:=hk.keep hgS1 (fun b hb _ he=>by injection he with he;have:=hDn b hb;have:=l4;have:=N2.at_;omega);have hj:=Y.keep _ _ _ _ _ hj hgS1 n4 (by have:=N4.at_;have:=N3.at_;have:=N2.at_;omega);have hn:=Nat.le_trans hn hgS1.size;refine AU ?_;refine Xva O (Yl Vma (Zc O) (aqc O (aqc O aq0)) O) (Wif Y hDn t v [] 0 V _ hn E.g1 E.g0 n3 n4 hd hk hj hQ hcn (by simp;omega) (by omega) (by omega)) ?_;rintro v8 w8 ⟨V2,hj2,hs2,g8⟩;refine ⟨nw1,?_⟩;have hs3:=vsub hs2 g.size (fun k hk=>.inl hk);have g:=Zfd g (fun k hk=>.inl hk) g8;refine Ze (Qj O ?_);exact ⟨V2,hj2,hs3,g⟩
end
theorem Uxd{w:World}{base z m:Nat}{e:TypeId}{v:Value}{xs:List Value}(h:w.ownsRow base e z v m xs)(hm:0<m) :
 ∃ b cap cur,v = .slice (some ⟨b,0,none⟩) m cap∧base≤b∧Blk w b e cur∧m≤cap∧cap≤maxLen∧cur.length=cap*z∧cur.take (m*z)=xs:=by
 rcases h.2 with ⟨_,h2⟩|⟨g,cap,cur,h1,h2,h3,h4,h5,h6,h7⟩;omega;exact ⟨g,cap,cur.toList,h1,h2,by unfold Blk;simpa using h3,h4,h5,by simpa using h6,h7⟩
theorem Zqe{w':World}{base z m b cap o:Nat}{e:TypeId}{cur vs xs:List Value}(hb:base≤b)(hB:Blk w' b e (cur.take o++vs++cur.drop (o+vs.length)))(h1:m≤cap)(h2:cap≤maxLen)(h3:cur.length=cap*z)(h4:cur.take (m*z)=xs)(ho:o+vs.length≤m*z) :
 w'.ownsRow base e z (.slice (some ⟨b,0,none⟩) m cap) m (xs.take o++vs++xs.drop (o+vs.length)):=by
 have hmc:m*z≤cap*z:=Nat.mul_le_mul_right _ h1;have hx:xs.length=m*z:=by rw [← h4,List.length_take];omega
 have hl:(cur.take o++vs++cur.drop (o+vs.length)).length=cap*z:=by
  simp only [List.length_append,List.length_take,List.length_drop];omega
 have hlx:(xs.take o++vs++xs.drop (o+vs.length)).length=m*z:=by
  simp only [List.length_append,List.length_take,List.length_drop];omega
 refine ⟨hlx,.inr ⟨b,cap,(cur.take o++vs++cur.drop (o+vs.length)).toArray,rfl,hb,by unfold Blk at hB;exact hB,h1,h2,by simpa using hl,?_⟩⟩;rw [← h4];have e1:(cur.take (m*z)).take o=cur.take o:=by rw [List.take_take,Nat.min_eq_left (by omega)]
 have e2:(cur.take (m*z)).drop (o+vs.length)=(cur.drop (o+vs.length)).take (m*z-(o+vs.length)):=by rw [List.drop_take]
 rw [e1,e2];show (cur.take o++vs++cur.drop (o+vs.length)).take (m*z)=_;have hlo:(cur.take o++vs).length=o+vs.length:=by simp only [List.length_append,List.length_take];omega
 rw [List.take_append,hlo,List.take_of_length_le (by omega)]
def litV(pre:List (Nd×Int)):List Nd:=(pre.filter fun x=>decide (x.1.kind=38)).map Prod.fst
theorem Jef{pre:List (Nd×Int)}{x:Nd×Int}(h:decide (x.1.kind=38)=true):litV (pre++[x])=litV pre++[x.1]:=by
 unfold litV;rw [List.filter_append,List.filter_cons_of_pos (p:=fun x:Nd×Int=>decide (x.1.kind=38)) h,List.map_append];rfl
theorem Jff{pre:List (Nd×Int)}{x:Nd×Int}(h:decide (x.1.kind=38)=false):litV (pre++[x])=litV pre:=by
 unfold litV;rw [List.filter_append,List.filter_cons_of_neg (p:=fun x:Nd×Int=>decide (x.1.kind=38)) (by rw [h];decide),List.filter_nil,List.append_nil]
structure JL (D:Nat→Prop) (n0 bo:Nat) (pre:List (Nd×Int)) (V:Nat→Prop) (A:World):Prop where
  ln:pre.length≤1000000
  ex:∃ s xs,Blk A bo Qnb [s]∧A.ownsRow n0 Ys 9 s (litV pre).length xs∧KRow A D (litV pre) xs∧∀ k,V k↔k=bo∨s.ownBlock=some k
section
variable {D:Nat→Prop} {n0 bo:Nat}
theorem Jgf(t:Nd):litV (visN t 0)=litN t:=Qyf t 0
theorem Jhf(pre:List (Nd×Int)):(litV pre).length≤pre.length:=by unfold litV;rw [List.length_map];exact List.length_filter_le _ _
theorem Wme{pre:List (Nd×Int)}{x:Nd×Int}{V:Nat→Prop}{w C:World}{v:Value}{g0 cap:Nat}{xs:List Value}(h1:decide (x.1.kind=38)=true)(hpl:pre.length<1000000)
 (hB:Blk C bo Qnb [.slice (some ⟨g0,0,none⟩) ((litV pre).length+1) cap]) (hR:C.ownsRow n0 Ys 9 (.slice (some ⟨g0,0,none⟩) ((litV pre).length+1) cap) ((litV pre).length+1) ((xs++ndCells nd0 (.slice none 0 0)).take (0+(((litV pre).length:Nat):Int).toNat*9)++ndCells x.1 v++(xs++ndCells nd0 (.slice none 0 0)).drop (0+(((litV pre).length:Nat):Int).toNat*9+9)))
 (hxl:xs.length=(litV pre).length*9) (hX:KRow C D (litV pre) xs) (hk:Kd C D x.1.kids v) (hVg:V g0∨w.heap.size≤g0) (hVb:V bo) (g:GV V w C) :
 ∃ V',JL D n0 bo (pre++[x]) V' C∧(∀ k,V' k→V k∨w.heap.size≤k)∧GV V w C:=by
 have e0:0+(((litV pre).length:Nat):Int).toNat*9=xs.length:=by rw [hxl,Int.toNat_natCast];omega
 have e1:(xs++ndCells nd0 (.slice none 0 0)).take (0+(((litV pre).length:Nat):Int).toNat*9)=xs:=by rw [e0,List.take_left'];rfl
 have e2:(xs++ndCells nd0 (.slice none 0 0)).drop (0+(((litV pre).length:Nat):Int).toNat*9+9)=[]:=List.drop_eq_nil_of_le (by rw [e0,List.length_append];exact Nat.le_refl _);rw [e1,e2,List.append_nil] at hR;refine ⟨fun k=>k=bo∨(Value.slice (some ⟨g0,0,none⟩) ((litV pre).length+1) cap).ownBlock=some k,⟨by simp;omega,_,xs++ndCells x.1 v,hB,?_,?_,fun k=>Iff.rfl⟩,fun k hk=>?_,g⟩;rw [Jef h1,List.length_append];exact hR;rw [Jef h1];exact Zrb hX (Yc hk);rcases hk with e|e;subst e;exact .inl hVb;have e:some g0=some k:=e;injection e with e;subst e;exact hVg
set_option maxHeartbeats 1000000 in
theorem Jif(hDn:∀ k,D k→k<n0)(hbo:n0≤bo)(pre:List (Nd×Int))(x:Nd×Int)(V:Nat→Prop)(w:World)(p:Option Addr)(c:Nat)(hj:JL D n0 bo pre V w)(hpl:pre.length<1000000)(hn:n0≤w.heap.size)(hk:Kd w D x.1.kids (.slice p x.1.kids.length c)) :
 Ret PP Uea #[ndV x.1 (.slice p x.1.kids.length c),.int .i64 x.2,.pointer (some ⟨bo,0,none⟩)] w fun _ A'=>∃ V',JL D n0 bo (pre++[x]) V' A'∧(∀ k,V' k→V k∨w.heap.size≤k)∧GV V w A':=by
 obtain ⟨_,s,xs,hB,hR,hX,hV⟩:=hj;have hll:=Jhf pre;have g:=GV.refl V w;refine WK 14 [0,1,2] Ypb ?_;refine AU ?_;refine Via O (Zc O) O ?_;intro b3 w3 N3;have l3:=Zza N3 g.size;have g:=g.trans (GV.of_g (N3.g));have hB:=hB.grow (N3.g);have hR:=Xz hR (N3.g);have hX:=hX.grow (N3.g);have hk:=hk.grow (N3.g);have E:=(Xna _).new N3;refine IF (fun h1=>?_) fun h1=>?_;replace h1:decide (x.1.kind=38)=true:=h1;obtain ⟨sa,sc,rfl,_⟩:=Vja hR;have hne:=Zka hR hB rfl;refine Xu (rowR none) [0,0,3,1,2,3,2,2] [0,0,1,0,15,31,63,31] mix (by kernel_rfl) [0,1,2,3,4,5,6,7] O ?_;have g:=g.trans (GV.of_g (G.drew _));replace E:=E.dr;have hB:=hB.grow (G.drew _);have hR:=Xz hR (G.drew _);have hX:=hX.grow (G.drew _);have hk:=hk.grow (G.drew _);refine Wf 0 O O (fun w1 hx=>Zt Zf (Zc O) (fun _=>(hB.keep hx (fun h=>nomatch h)).at_ O)) (Wf 1 O O (fun w1 hx=>Zy Zh (Zc O) O (fun _=>(E.g0.keep hx (fun h=>nomatch h)).row)) (Zx 2 O O (fun _=>Vha Zd (Zc O)) (Zv 3 O O ?_)));refine Zw (L':=[4,5,6,7]) [0,0,3,1,2,3,2,2] O O O ?_;refine Wy _ O Zd Zu (pqc O pq0) O O ?_;intro b11 w11 N11;have l11:=Zza N11 g.size;have g:=g.trans (GV.of_g (N11.g));have hB:=hB.grow (N11.g);have hR:=Xz hR (N11.g);have hX:=hX.grow (N11.g);have hk:=hk.grow (N11.g);replace E:=E.new N11;refine Yi ((N11.g).only _) ?_;refine Zv 4 O O ?_;refine Yf (L':=[5,6,7]) [0,0,3,1,2,3,2,2] O O O O ?_;have hxl:xs.length=(litV pre).length*9:=hR.1;have hlt:=fun k hk=>(hR.lt k hk);have hV2:=hV;refine Jc O Zd Zu O (by decide) (Zc O) hR (Zc O) O E.g0.row O (by simp only [maxLen];omega) (by omega) (by have:=g.size;omega) ?_;intro a12 c12 w12 hR2 hg12 hat12;have hB:=hB.keep hg12 (fun e=>hne e.symm)
 have hX:=hX.keep hg12 (fun b hb _ he=>by have:=hDn b hb;have:=(hlt b he.symm).1;omega);have hk:=hk.keep hg12 (fun b hb _ he=>by have:=hDn b hb;have:=(hlt b he.symm).1;omega);have hxw:=hg12.size;have hwg:=g.size;have g:=Xrd g hg12 (fun k hk=>(hV k).2 (.inr hk));obtain ⟨g0,cap,cur,he,hg0,hC,q1,q2,q3,q4⟩:=Uxd hR2 (by omega);injection he with he1 _ he2;subst he1 he2;have hne2:=Zka hR2 hB rfl
 have hat:∀ k,some g0=some k→V k∨w.heap.size≤k:=fun k hk=>by
  rcases hat12 with q|q;exact .inl ((hV k).2 (.inr (q.symm.trans hk)));exact .inr (by have e:some g0=some _:=q;rw [hk] at e;injection e with e;omega)
 have hVg:V g0∨w.heap.size≤g0:=hat g0 rfl;refine Yx ?_;refine Zx 5 O O (fun _=>Qea Zd (Zc O) (Zc O) (fun _=>by omega)) (Uua 6 7 O O ?_ ?_);refine Yf (L':=[7]) [0,0,3,1,2,3,2,2] rfl rfl rfl rfl ?_;refine Xi O Jf (Zc O) (Zc O) O O hC (by rw [Nat.ble_eq];show 0+_*9+9≤_;rw [q3];simp only [Int.toNat_natCast];omega) O ?_;intro w13 hg13 hz13 hC13;have hR3:=Zqe (vs:=ndCells x.1 (.slice p x.1.kids.length c)) hg0 hC13 q1 q2 q3 q4 (by show 0+_*9+9≤_;simp only [Int.toNat_natCast];omega);have hB:=hB.keep hg13 (fun e=>hne2 e.symm);have hX:=hX.keep hg13 (fun b hb _ he=>by injection he with he;have:=hDn b hb;omega);have hk:=hk.keep hg13 (fun b hb _ he=>by injection he with he;have:=hDn b hb;omega);have g:=hVg.elim (fun h=>Ywc g hg13 h) (fun h=>Zwb g hg13 h);refine Yx ?_;refine Zv 7 O O ?_;refine Yf (L':=[]) [0,0,3,1,2,3,2,2] O O O O ?_;refine Ym O Jra (Zc O) (Zc O) O hB O O ?_;intro w14 hg14 hz14 hB14;have hB:=hB14;first|have hR3:=Xw hR3 hg14 (.inr fun e=>hne2 e)|have hC:=hC.keep hg14 (fun e=>hne2 e)
 have hX:=hX.keep hg14 (fun b hb _ he=>by injection he with he;have:=hDn b hb;omega);have hk:=hk.keep hg14 (fun b hb _ he=>by injection he with he;have:=hDn b hb;omega);have g:=Ywc g hg14 ((hV bo).2 (.inl rfl));refine Yx ?_;refine TK [] ?_;refine Qk (Qj O ?_);exact Wme h1 hpl hB hR3 hxl hX hk hVg ((hV bo).2 (.inl rfl)) g;refine Yf (L':=[6]) [0,0,3,1,2,3,2,2] rfl rfl rfl rfl ?_;refine Ym O Jra (Zc O) (Zc O) O hB O O ?_;intro w14 hg14 hz14 hB14;have hB:=hB14;first|have hR3:=Xw hR3 hg14 (.inr fun e=>hne2 e)|have hC:=hC.keep hg14 (fun e=>hne2 e)
 have hX:=hX.keep hg14 (fun b hb _ he=>by injection he with he;have:=hDn b hb;omega);have hk:=hk.keep hg14 (fun b hb _ he=>by injection he with he;have:=hDn b hb;omega);have g:=Ywc g hg14 ((hV bo).2 (.inl rfl));refine Yx ?_;refine Zv 6 O O ?_;refine Yf (L':=[]) [0,0,3,1,2,3,2,2] O O O O ?_;refine Xi O Jf (Zc O) (Zc O) O O hC (by rw [Nat.ble_eq];show 0+_*9+9≤_;rw [q3];simp only [Int.toNat_natCast];omega) O ?_;intro w13 hg13 hz13 hC13;have hR3:=Zqe (vs:=ndCells x.1 (.slice p x.1.kids.length c)) hg0 hC13 q1 q2 q3 q4 (by show 0+_*9+9≤_;simp only [Int.toNat_natCast];omega);have hB:=hB.keep hg13 (fun e=>hne2 e.symm);have hX:=hX.keep hg13 (fun b hb _ he=>by injection he with he;have:=hDn b hb;omega);have hk:=hk.keep hg13 (fun b hb _ he=>by injection he with he;have:=hDn b hb;omega);have g:=hVg.elim (fun h=>Ywc g hg13 h) (fun h=>Zwb g hg13 h);refine Yx ?_;refine TK [] ?_;refine Qk (Qj O ?_);exact Wme h1 hpl hB hR3 hxl hX hk hVg ((hV bo).2 (.inl rfl)) g;replace h1:decide (x.1.kind=38)=false:=h1;refine Ya (Qj O ?_);exact ⟨V,⟨by simp;omega,s,xs,hB,by rw [Jff h1];exact hR,by rw [Jff h1];exact hX,hV⟩,fun k hk=>.inl hk,g⟩
theorem Qwe(hDn:∀ k,D k→k<n0)(hbo:n0≤bo):VisJ Uea #[.pointer (some ⟨bo,0,none⟩)] D n0 (fun _=>True) (fun pre V A=>JL D n0 bo pre V A) where
 go:=Vnb
 g:=fun pre V A C ⟨hl,s,xs,hB,hR,hX,hV⟩ g=>⟨hl,s,xs,hB.grow g,Xz hR g,hX.grow g,hV⟩
 keep:=fun pre V A C b ⟨hl,s,xs,hB,hR,hX,hV⟩ hg hb hn=>⟨hl,s,xs,hB.keep hg (fun e=>hb ((hV b).2 (.inl (by injection e with e;exact e.symm)))),Xw hR hg (.inr fun e=>hb ((hV b).2 (.inr e))),
  hX.keep hg (fun k hk _ e=>by injection e with e;have:=hDn k hk;omega),hV⟩
 lt:=fun pre V A ⟨hl,s,xs,hB,hR,hX,hV⟩ k hk=>((hV k).1 hk).elim (fun e=>e▸hB.lt) fun e=>(hR.lt k e).2
 st:=fun pre x V A p c _ hl hj hn hd hk=>Jif hDn hbo pre x V A p c hj hl hn hk
theorem Vec(t:Nd)(v:Value)(w:World):Ret PP Zkc #[ndV t v] w fun r w'=>r = .bool (fnB t)∧G w w':=by
 have g:=G.refl w;refine WK 11 [0] Vkb ?_;refine BM fun _ _ _ _ g E=>?_;refine RTN ?_;exact ⟨rfl,g⟩
theorem Vag(t:Nd)(v:Value)(D:Nat→Prop)(w:World)(hk:Kd w D t.kids v)(hcn:count t≤1000000) :
 Ret PP Zic #[ndV t v] w fun r w'=>Kd w' (fun b=>D b∨w.heap.size≤b) (bif fnB t then litN t else []) r∧G w w':=by
 have hk0:Kd w (fun b=>D b∧b<w.heap.size) t.kids v:=hk.lt;have g:=G.refl w;refine WK 11 [0] Vjb ?_;refine BM fun _ _ _ _ g E=>?_;refine AU ?_;refine CP (Vec t v _) (fun w5 g5=>?_);have g:=g.trans g5;replace E:=E.grow g5;refine IF (fun h1=>?_) fun h1=>?_;replace h1:fnB t=false:=by simpa using h1
 refine RTN ?_;rw [h1];exact ⟨Jya _ _,g⟩;replace h1:fnB t=true:=by simpa using h1
 refine Ya (kq (Zj (Zm (AN fun b3 _ _ l3 g E=>?_))));refine Ze (kq (Zj (Zm (Vf Zh rfl rfl E.g1.row (Zo rfl (fun _=>Jwc (aq0) (aqc rfl aq0)) (CL (Xud (Qwe (D:=fun b=>D b∧b<w.heap.size) (n0:=w.heap.size) (bo:=b3) (fun k hk=>hk.2) l3) (fun k hk=>hk.2) t v (fun k=>k=b3∨(Value.slice none 0 0).ownBlock=some k) _ g.size (fun k hk h=>h.elim (fun e=>by have:=hk.2;omega) fun e=>by cases e) (hk0.grow g) ⟨Nat.zero_le _,_,_,E.g0,Zga _ _ _ _,Yzd,fun k=>Iff.rfl⟩ (fun x _=>trivial) hcn) ?_))))));rintro v9 w9 ⟨V2,⟨_,s,xs,hB,hR,hX,hV⟩,hs2,q9⟩;refine ⟨nw1,?_⟩;have g:=g_gb g q9 (fun k hk=>hk.elim (fun e=>e▸l3) fun e=>by cases e);clear E;rw [Jgf] at hR hX;refine RTN ?_;rw [h1];exact ⟨Uof hR rfl (hX.mono fun b hb _=>.inl hb.1) (fun b hb=>.inr (hR.lt b hb).1),g⟩
end
def allT(t:Nd):List Nd:=(listN t).filter fun k=>fnB k
theorem Wjf(t:Nd)(v:Value)(D:Nat→Prop)(w:World)(hk:Kd w D t.kids v)(hc:count t≤1000000):Ret PP Uqe #[ndV t v] w fun r w'=>Kd w' (fun b=>D b∨w.heap.size≤b) (allT t) r∧G w w':=by
 have hln:=Qza t;have hk0:Kd w (fun b=>D b∧b<w.heap.size) t.kids v:=hk.lt;have g:=G.refl w;refine WK 27 [0] Jad ?_;refine BM fun _ _ _ _ g E=>?_;refine AU ?_;refine CL (Qgf t v (fun b=>D b∧b<w.heap.size) _ (hk0.grow g) hc) ?_;rintro v7 w7 ⟨hk7,g7⟩;refine ⟨fun _=>g7,?_⟩;have hlw:w.heap.size≤w7.heap.size:=(g.trans g7).size;have hk7:Kd w7 (fun b=>(D b∨w.heap.size≤b)∧b<w7.heap.size) (listN t) v7:=(hk7.mono fun b hb _=>hb.elim (fun h=>.inl h.1) fun h=>.inr (Nat.le_trans g.size h)).lt;have g:=g.trans g7;obtain ⟨n1,hn1⟩:∃ n,n=w7.heap.size:=⟨_,rfl⟩;rw [← hn1] at hk7 hlw;obtain ⟨p7,c7,rfl,_⟩:=id hk7;replace E:=E.grow g7;refine AU ?_;replace E:=E.sel [false];refine We (fun (x:Nat×Option Addr×Nat) u1=>match x with|⟨i,sa,ca⟩=>(i≤(listN t).length∧n1≤u1.heap.size∧Kd u1 (fun b=>(D b∨w.heap.size≤b)∧b<n1) (listN t) (.slice p7 (listN t).length c7)∧OwnK Ys (fun b=>(D b∨w.heap.size≤b)) n1 u1 (((listN t).take i).filter fun k=>fnB k) (.slice sa (((listN t).take i).filter fun k=>fnB k).length ca))∧G w u1) _ [(2,True,_),(4,True,_)] (fun (x:Nat×Option Addr×Nat)=>match x with|⟨i,sa,ca⟩=>[(3,True,.slice sa (((listN t).take i).filter fun k=>fnB k).length ca),(5,True,.int .i64 i)]) (fun (x:Nat×Option Addr×Nat)=>match x with|⟨i,sa,ca⟩=>(listN t).length-i) ((0,none,0)) ⟨⟨Nat.zero_le _,Nat.le_of_eq hn1,hk7,Wxc _ _ _ _⟩,g⟩ (Yh _) (Za O (Za O (Za O (Za O (Zp _))))) ?_;rintro ⟨i,sa,ca⟩ u1 ⟨hI1,gl1⟩ _;have g:=gl1;obtain ⟨hi,hnu,hk7,hO⟩:=hI1;have hfl:=Xqd (p:=fun k=>fnB k) (l:=listN t) (i:=i);refine IF (fun h1=>?_) fun h1=>?_;replace h1:i<(listN t).length:=by simp only [decide_eq_true_eq] at h1;omega
 obtain ⟨hpe,p',c',hcell,hkid⟩:=hk7.opt1 h1;have hks:=hk7;have gz:=G.refl u1;refine AU ?_;refine CP (Vdc (listN t)[i] _ _) (fun w18 g18=>?_);have g:=g.trans g18;have hO:=hO.grow (g18);have hk7:=hk7.grow (g18);have hcell:=hcell.grow g18;have hkid:=hkid.grow g18;have hnu:=Nat.le_trans hnu g18.size;have hks:=hk7;refine IF (fun h2=>?_) fun h2=>?_;replace h2:fnB (listN t)[i]=true:=h2;have ef:=Zvb (p:=fun k=>fnB k) h1;rw [h2] at ef;refine CM fun _ _ N24 _ g E=>?_;have hO:=hO.grow (N24.g);have hkid:=hkid.grow N24.g;have hb24:=E.g0.lt;have hs24:=N24.g.size;have hOo:=hO;refine Jza O Zd Zu O (Zc O) hO (Zc O) O E.g0.row (Yc (hkid.mono fun k hk _=>⟨hk.1,fun he=>by have:=hO.ge k he.symm;omega⟩)) (by first|omega|(simp;omega)) (by have:=g.size;omega) (.inr (by have:=g.size;omega)) ?_;intro a25 c25 w25 hO hg25;replace E:=E.sel [false];have g:=Jh g hg25 (fun k hk=>(by have:=hOo.ge k hk;omega));refine AU ?_;refine SK [3,5,2,4] ?_;refine Ze (fun a ha=>?_);rw [show ((listN t).take i).filter (fun k=>fnB k)++[(listN t)[i]]=((listN t).take (i+1)).filter (fun k=>fnB k) from ef.symm] at ha hO;exact ⟨(i+1,a25,c25),ha,⟨⟨h1,by have:=hg25.size;have:=N24.g.size;omega,(hks.grow N24.g).keep hg25 (fun k hk _ he=>by have:=hOo.ge k he.symm;omega),hO⟩,g⟩,(Yh _),by show (listN t).length-(i+1)<(listN t).length-i;omega⟩;replace h2:fnB (listN t)[i]=false:=h2;have ef:=Zvb (p:=fun k=>fnB k) h1;rw [h2,cond_false,List.append_nil] at ef;refine AU ?_;refine SK [3,5,2,4] ?_;refine Ze (fun a ha=>?_);rw [← ef] at ha hO;exact ⟨(i+1,sa,ca),ha,⟨⟨h1,hnu,hk7,hO⟩,g⟩,(Yh _),by show (listN t).length-(i+1)<(listN t).length-i;omega⟩
 replace h1:i=(listN t).length:=by simp only [decide_eq_false_iff_not] at h1;omega
 subst h1;rw [List.take_length] at hO;refine RTN ?_;unfold allT;rw [List.take_length];exact ⟨hO.kd fun b hb=>hb,g⟩
def useE(v:Int)(k:Nd):List (Nd×Int):=(bif useB k then [(k,v)] else [])++useN k (upL k v)
def useK(t:Nd)(v:Int)(i:Nat):List (Nd×Int):=(t.kids.take i).flatMap (useE v)
theorem Xvd:∀ t v,(useN t v).length+1≤count t:=by
 refine Nd.ind fun t ih v=>?_;rw [Zvf,Uw,Nat.add_comm];refine Nat.add_le_add_left (Jib _ fun k hk=>?_) 1;have:=ih k hk (upL k v);rw [List.length_append];cases useB k;simp only [cond_false,List.length_nil];omega;simp only [cond_true,List.length_cons,List.length_nil];omega
theorem Jjf(t:Nd)(v:Int)(i:Nat):(useK t v i).length≤((t.kids.take i).map count).sum:=Jib _ fun k _=>by
 have:=Xvd k (upL k v);unfold useE;rw [List.length_append];cases useB k;simp only [cond_false,List.length_nil];omega;simp only [cond_true,List.length_cons,List.length_nil];omega
theorem Wkf{t:Nd}{v:Int}{i:Nat}(h:i<t.kids.length):useK t v (i+1)=useK t v i++useE v t.kids[i]:=by
 unfold useK;rw [Yna h,List.flatMap_append,List.flatMap_cons,List.flatMap_nil,List.append_nil]
theorem Jkf(t:Nd)(v:Int):useK t v t.kids.length=useN t v:=by unfold useK;rw [List.take_length,Zvf];rfl
theorem Zbc{α β:Type}{f:α→β}{l:List α}{m:List β}(h:l.map f=m):l.length=m.length:=by rw [← h,List.length_map]
theorem Jlf:∀ (t:Nd) (v:Value) (D:Nat→Prop) (w:World) (lev:Int),Kd w D t.kids v→count t≤1000000→0≤lev→lev+count t≤2000000→Ret PP Ywe #[ndV t v,.int .i64 lev] w fun r w'=>(∃ us:List ((Nd×Int)×Option Addr×Nat×Nat),us.map Prod.fst=useN t lev∧RetF Jgb w' us r)∧G w w':=by
 refine Nd.ind fun t ih v D w lev hk hc h0 hlc=>?_;obtain ⟨p,c,rfl,hcap,hks⟩:=hk;have g:=G.refl w;have hlen:=Up t;refine WK 49 [0,1] Wsd ?_;refine BM fun b2 _ _ _ g E=>?_;refine AU ?_;have hnd1:=E.1;refine We (fun (x:Nat×Option Addr×Nat×List ((Nd×Int)×Option Addr×Nat×Nat)) u1=>match x with|⟨i,sa,ca,us⟩=>(i≤t.kids.length∧us.map Prod.fst=useK t lev i∧OwF Jgb Wtb 10 w.heap.size u1 us (.slice sa us.length ca))∧G w u1) _ [(1,True,_),(2,True,_),(4,True,_)] (fun (x:Nat×Option Addr×Nat×List ((Nd×Int)×Option Addr×Nat×Nat))=>match x with|⟨i,sa,ca,us⟩=>[(5,True,.slice sa us.length ca),(6,True,.int .i64 i)]) (fun (x:Nat×Option Addr×Nat×List ((Nd×Int)×Option Addr×Nat×Nat))=>match x with|⟨i,sa,ca,us⟩=>t.kids.length-i) ((0,none,0,[])) ⟨⟨Nat.zero_le _,rfl,Zne _⟩,g⟩ (Zs (blkE E.g0) (Yh _)) (Za O (Za O (Za O (Za O (Za O (Zp _)))))) ?_;clear E;rintro ⟨i,sa,ca,us⟩ u1 ⟨hI1,gl1⟩ ⟨B2,_⟩;replace B2:Blk _ _ _ _:=B2;have g:=gl1;obtain ⟨hi,hm,hO⟩:=hI1;have hml:=Zbc hm;have E:=Zha (L:=[(b2,_,_)]) hnd1 ⟨B2,trivial⟩ rfl;refine Zj (Zj (Zm (Zq O (Yj Zg O (Yq Zf O (E.g0.at_ O) (Xla Zd O (Xka O O (Ze (kq (Wm O (fun h1=>?_) (fun h1=>?_)))))))))));replace h1:i<t.kids.length:=by simp only [decide_eq_true_eq] at h1;omega
 obtain ⟨b,o,rfl,hD,xs,hR,hX⟩:=hks (by omega);obtain ⟨p',c',hcell,hkid⟩:=Xjb hR hX h1;have hck:=Zsa h1;have hcl:=Jjf t lev i;have hus:=Wkf (v:=lev) h1;have hul:=Xvd t.kids[i] (upL t.kids[i] lev);refine Ya (kq (Zj (Yv (Zj (Zm (Yj Zg O (Yq Zf O (E.g0.at_ O) (Zq O (Zfb Zd O O (by omega) (Vf Zh O O (hcell.grow g) (AN fun _ _ ga _ g E=>?_)))))))))));have hO:=Ui hO;refine AS fun _ ga Ca g E=>?_;have hO:=hO.keep ga Ca rfl;refine Ze (kq (Zj (Zj (Zm (Yj Xm O (Yq Yd O (E.g0.at_ O) (Zwa O O (Zq O (Zi O O O (fun _=>Zn Qc (Zc O)) (Ye O O O (Zt Yd (Zk O id) (fun _=>E.g0.at_ O)) (Zi O O O (fun _=>Zla (Zk O id) Xg) (Zo O (fun _=>Zz (Zc O) (Zk O id)) (Ze (kq (Wm O (fun h2=>?_) (fun h2=>?_))))))))))))))));replace h2:(useB t.kids[i])=true:=h2;have eu:useE lev t.kids[i]=[(t.kids[i],lev)]++useN t.kids[i] (upL t.kids[i] lev):=by unfold useE;rw [h2];rfl
 refine Zm (Zq O (Vf Zh O O E.g0.row (Zq O (Zba Vw Vna (pqc O (pqc O pq0)) O O (CN fun _ _ ga _ g E=>?_)))));have hO:=Ui hO;have hOo:=hO;refine Zdb O Xo Vw O O Zta (Zc O) hO (Zc O) (Jfb (x:=((t.kids[i],lev),p',t.kids[i].kids.length,c')) E.g0 O) (Xea Jhb _) (by first|omega|(simp;omega)) O (by have:=g.size;omega) ?_;intro a33 c33 w33 hO hg33;replace E:=E.sel [false,true,true];replace E:=E.keepN hOo.1 hg33 rfl;have g:=Jh g hg33 (fun k hk=>hOo.ge k hk);refine IF (fun h3=>?_) fun h3=>?_;have e3:upL t.kids[i] lev=lev+1:=by unfold upL;rw [show decide (t.kids[i].kind=38)=true from h3];rfl
 rw [e3] at eu hul;refine AU ?_;refine CL (ih _ (List.getElem_mem h1) _ _ _ (lev+1) (hkid.grow g) (by omega) (by omega) (by omega)) ?_;rintro v41 w41 ⟨⟨us2,hm2,hr41⟩,g41⟩;refine ⟨fun _=>g41,?_⟩;have hl2:=Zbc hm2;have g:=g.trans g41;replace E:=E.grow g41;have hO:=hO.grow (g41);have hOo:=hO;refine Zdb O Xo Vw O O Zta (Zc O) hO (Zc O) hr41 (Xea Jhb _) (by first|omega|(simp;omega)) O (by have:=g.size;omega) ?_;intro a42 c42 w42 hO hg42;replace E:=E.keepN hOo.1 hg42 rfl;have g:=Jh g hg42 (fun k hk=>hOo.ge k hk);refine AU ?_;refine SK [5,6,1,2,4] ?_;refine Ze (fun a ha=>?_);exact ⟨(i+1,a42,c42,us++[((t.kids[i],lev),p',t.kids[i].kids.length,c')]++us2),ha,⟨⟨h1,by simp [hm,hm2,hus,eu],hO⟩,g⟩,(Zs (blkE E.g1) (Yh _)),by show t.kids.length-(i+1)<t.kids.length-i;omega⟩;have e3:upL t.kids[i] lev=lev:=by unfold upL;rw [show decide (t.kids[i].kind=38)=false from h3];rfl
 rw [e3] at eu hul;refine AU ?_;refine CL (ih _ (List.getElem_mem h1) _ _ _ lev (hkid.grow g) (by omega) (by omega) (by omega)) ?_;rintro v46 w46 ⟨⟨us2,hm2,hr46⟩,g46⟩;refine ⟨fun _=>g46,?_⟩;have hl2:=Zbc hm2;have g:=g.trans g46;replace E:=E.grow g46;have hO:=hO.grow (g46);have hOo:=hO;refine Zdb O Xo Vw O O Zta (Zc O) hO (Zc O) hr46 (Xea Jhb _) (by first|omega|(simp;omega)) O (by have:=g.size;omega) ?_;intro a47 c47 w47 hO hg47;replace E:=E.keepN hOo.1 hg47 rfl;have g:=Jh g hg47 (fun k hk=>hOo.ge k hk);refine AU ?_;refine SK [5,6,1,2,4] ?_;refine Ze (fun a ha=>?_);exact ⟨(i+1,a47,c47,us++[((t.kids[i],lev),p',t.kids[i].kids.length,c')]++us2),ha,⟨⟨h1,by simp [hm,hm2,hus,eu],hO⟩,g⟩,(Zs (blkE E.g1) (Yh _)),by show t.kids.length-(i+1)<t.kids.length-i;omega⟩;replace h2:(useB t.kids[i])=false:=h2;have eu:useE lev t.kids[i]=useN t.kids[i] (upL t.kids[i] lev):=by unfold useE;rw [h2];rfl
 refine IF (fun h4=>?_) fun h4=>?_;have e3:upL t.kids[i] lev=lev+1:=by unfold upL;rw [show decide (t.kids[i].kind=38)=true from h4];rfl
 rw [e3] at eu hul;refine AU ?_;refine CL (ih _ (List.getElem_mem h1) _ _ _ (lev+1) (hkid.grow g) (by omega) (by omega) (by omega)) ?_;rintro v41 w41 ⟨⟨us2,hm2,hr41⟩,g41⟩;refine ⟨fun _=>g41,?_⟩;have hl2:=Zbc hm2;have g:=g.trans g41;replace E:=E.grow g41;have hO:=hO.grow (g41);have hOo:=hO;refine Zdb O Xo Vw O O Zta (Zc O) hO (Zc O) hr41 (Xea Jhb _) (by first|omega|(simp;omega)) O (by have:=g.size;omega) ?_;intro a42 c42 w42 hO hg42;replace E:=E.keepN hOo.1 hg42 rfl;have g:=Jh g hg42 (fun k hk=>hOo.ge k hk);refine AU ?_;refine SK [5,6,1,2,4] ?_;refine Ze (fun a ha=>?_);exact ⟨(i+1,a42,c42,us++us2),ha,⟨⟨h1,by simp [hm,hm2,hus,eu],hO⟩,g⟩,(Zs (blkE E.g1) (Yh _)),by show t.kids.length-(i+1)<t.kids.length-i;omega⟩;have e3:upL t.kids[i] lev=lev:=by unfold upL;rw [show decide (t.kids[i].kind=38)=false from h4];rfl
 rw [e3] at eu hul;refine AU ?_;refine CL (ih _ (List.getElem_mem h1) _ _ _ lev (hkid.grow g) (by omega) (by omega) (by omega)) ?_;rintro v46 w46 ⟨⟨us2,hm2,hr46⟩,g46⟩;refine ⟨fun _=>g46,?_⟩;have hl2:=Zbc hm2;have g:=g.trans g46;replace E:=E.grow g46;have hO:=hO.grow (g46);have hOo:=hO;refine Zdb O Xo Vw O O Zta (Zc O) hO (Zc O) hr46 (Xea Jhb _) (by first|omega|(simp;omega)) O (by have:=g.size;omega) ?_;intro a47 c47 w47 hO hg47;replace E:=E.keepN hOo.1 hg47 rfl;have g:=Jh g hg47 (fun k hk=>hOo.ge k hk);refine AU ?_;refine SK [5,6,1,2,4] ?_;refine Ze (fun a ha=>?_);exact ⟨(i+1,a47,c47,us++us2),ha,⟨⟨h1,by simp [hm,hm2,hus,eu],hO⟩,g⟩,(Zs (blkE E.g1) (Yh _)),by show t.kids.length-(i+1)<t.kids.length-i;omega⟩;replace h1:i=t.kids.length:=by simp only [decide_eq_false_iff_not] at h1;omega
 subst h1;rw [Jkf] at hm;refine RTN ?_;exact ⟨⟨us,hm,hO.ret⟩,g⟩
theorem Wne{P:Program}{k:Nat}{f:Field}{fs:List Field}{l:List Nat}(h:Umb P k (f::fs)=some (0::l)):f.offset=k∧f.name≠ "_" ∧Vka P f.type=some 0∧Umb P (k+1) fs=some l:=by
 unfold Umb at h;split at h;rename_i hc;simp only [Bool.and_eq_true,bne_iff_ne,ne_eq] at hc;split at h;rename_i a l' ha hl;injection h with h;injection h with h1 h2;subst h1 h2;exact ⟨Nat.eq_of_beq_eq_true hc.1,hc.2,ha,hl⟩;cases h;cases h
theorem Uyd{P:Program}{t:TypeId}(h:Vka P t=some 0)(w:World)(em:Bool)(q:IntKind)(a:Int):(Instr.checkKey em 9999 t (.int q a)).run P w = .ok () w:=by
 unfold Vka at h;split at h <;> try (cases h;done)
 rename_i q' hq;show (Instr.checkKey em (9998+1) t (.int q a)).run P w=_;rw [Instr.checkKey];simp only [Sem.run_bind,run_underlying hq,Result.andThen_ok,Sem.run_pure]
theorem Wlf{P:Program}{k:TypeId}(ht:Xfa P k=some [0,0])(w:World)(em:Bool)(a:Int×Int):(Instr.checkKey em 10000 k (capV a)).run P w = .ok () w:=by
 unfold Xfa at ht;split at ht;rename_i fs hfs;split at ht;rename_i hk;show (Instr.checkKey em (9999+1) k (capV a)).run P w=_;rw [Instr.checkKey];simp only [Sem.run_bind,run_underlying hfs,Result.andThen_ok,capV];rw [← Array.forIn_toList]
 match hl:fs.toList with
 | []=>rw [hl] at ht;cases ht
 | f0::l0 =>
  rw [hl] at ht;obtain ⟨o0,n0,k0,ht⟩:=Wne ht
  match l0,ht with
  | [],ht=>cases ht
  | f1::l1,ht =>
   obtain ⟨o1,n1,k1,ht⟩:=Wne ht
   match l1,ht with
   | [],ht =>
    have p0:=Jka (Xxc k0) (cs:=#[.int .i64 a.1,.int .i64 a.2]) (o:=f0.offset) (v:=.int .i64 a.1) (by rw [o0];rfl) w;have p1:=Jka (Xxc k1) (cs:=#[.int .i64 a.1,.int .i64 a.2]) (o:=f1.offset) (v:=.int .i64 a.2) (by rw [o1];rfl) w;simp only [List.forIn_cons,List.forIn_nil,Sem.run_bind,Sem.run_ite,if_pos n0,if_pos n1,p0,p1,Uyd k0,Uyd k1,Result.andThen_ok,Sem.run_pure]
   | f2::l2,ht =>
    unfold Umb at ht;split at ht;split at ht <;> cases ht
    cases ht
 cases ht;cases ht
theorem Zwf{P:Program}{k:TypeId}(ht:Xfa P k=some [0,0]):KeyT P k capV:=by
 have h:=ht;unfold Xfa at h;split at h;rename_i fs hfs;exact Qff hfs ht (Wlf ht);cases h
section
variable {P:Program} {Z:List PanicEntry→Act→World→Prop} {ops:List Oper} {cl:List Nat} {lv:List Bool} {W0:World} {n:Nat} {K:Act→World→Prop} {k:Nat} {rest:List Oper} {σ:List Ent} {w:World} {d:Nat} {ty:TypeId} {pos:String} {after:Array Edge}
theorem Uzd{c:Prop}{wb:World}{t kt e b:Nat}{x y:Operand}{α:Type}[BEq α][LawfulBEq α]{f:α→Value}{l:List α}{a:α}(T:KeyT P kt f)(ht:P.underlying t=some (.map kt e))(hz:zeroOf P e=some (.bool false))(h:MapB wb b (l.map f))(hx:Ev n σ c x (.map (some b)))(hy:Ev n σ c y (f a)) :
 Rd P n σ c wb (.lookup t x y false) ty (.bool (decide (a∈l))):=.mk fun d pos after gd act ha hc w1 hg=>by
 obtain ⟨i,hi,hz'⟩:=Wxa hz;have r:=Qme T ht hi hz' (h.grow hg) a;simp [execOp,hx act ha hc,hy act ha hc,r]
theorem Woe{t kt e b:Nat}{x y z:Operand}{α:Type}[BEq α][LawfulBEq α]{f:α→Value}{l:List α}{a:α}(hb:Nat.beq (clOf cl k) 2=true)(T:KeyT P kt f)(ht:P.underlying t=some (.map kt e))(hM:MapB w b (l.map f))(hx:Ev n σ True x (.map (some b)))(hy:Ev n σ True y (f a))(hz:Ev n σ True z (.bool true))
 (h:∀ w1,MapB w1 b ((bif decide (a∈l) then l else l++[a]).map f)→w.grownBy w1 (some b)→SR P Z ops cl lv W0 n K (k+1) rest σ w1) :
 SR P Z ops cl lv W0 n K k (⟨none,.mapUpdate t x y z,ty,pos,after,none⟩::rest) σ w:=by
 obtain ⟨w1,r1,r2,r3⟩:=Qne T ht hM a;refine Jye hb (w':=w1) (fun d pos after g act ha _=>?_) (h w1 r2 r3);simp [execOp,hx act ha trivial,hy act ha trivial,hz act ha trivial,r1]
theorem Wpe{t:Nat}(hb:(!Nat.beq (clOf cl k) 0 && !Nat.beq (clOf cl k) 3&&Nat.blt d n)=true)
  (h:∀ b w1,b=w.heap.size→G w w1→w1.heap.size=w.heap.size+1→MapB w1 b []→SR P Z ops cl lv W0 n K (k+1) rest ((d,True,.map (some b)) :: σ) w1) :
  SR P Z ops cl lv W0 n K k (⟨some d,.makeMap t none,ty,pos,after,none⟩::rest) σ w :=
 Zzb hb (w':=w.alloc (.map #[] 0)) (fun d pos after g a ha _=>by simp [execOp,Instr.makeMap]) (fun _=>Zlf w _) (h _ _ rfl (Zlf w _) (by simp) (Qdf w))
theorem Zxb{α:Type}{f:α→List Value}{t e z by_ base:Nat}{x y:Operand}{s v zv:Value}{ks ls:List α}(hb:(Nat.beq (clOf cl k) 2&&Nat.blt d n)=true)(ht:tyElem P t=some (e,z,by_))(hzv:zeroOf P e=some zv)
 (hzs:zv.cells.size=z) (hz:Nat.blt 0 z=true) (hf:∀ a,(f a).length=z) (hx:Ev n σ True x s) (hO:OwF f e z base w ks s) (hy:Ev n σ True y v) (hR:RetF f w ls v) (hne:ls≠[]) (h1:onesB (ls.flatMap f)=true)
 (hlen:ks.length+ls.length≤10000000) (hby:Nat.ble by_ 1000=true) (hbase:base≤w.heap.size)
 (h:∀ a' c' w',OwF f e z base w' (ks++ls) (.slice a' (ks++ls).length c')→w.grownBy w' s.ownBlock→(∀ j,(Value.slice a' (ks++ls).length c').ownBlock=some j→s.ownBlock=some j∨w.heap.size≤j)→SR P Z ops cl lv W0 n K (k+1) rest ((d,True,.slice a' (ks++ls).length c') :: σ) w') :
 SR P Z ops cl lv W0 n K k (⟨some d,.call { callee:=.builtin .append,args:=#[x,y],argTypes:=#[t,t] },ty,pos,after,none⟩::rest) σ w:=by
 obtain ⟨p,c,rfl,_,h2⟩:=hR.1;obtain ⟨b,o,rfl,hr⟩:=h2 (List.length_pos_iff.2 hne);have hby:=Nat.le_of_ble_eq_true hby;refine Jc hb ht hzv hzs (by rw [Nat.blt_eq] at hz;exact hz) hx hO.1 hy (Qda hf ls) hr h1 (by simp only [maxLen];omega) ?_ hbase fun a' c' w' ho hg hat=>?_
 calc (ks.length+ls.length)*by_≤10000000*1000:=Nat.mul_le_mul hlen hby
  _≤140737488355328:=by decide
 have h':=h a' c' w';rw [List.length_append] at h';exact h' ⟨by rw [List.flatMap_append,List.length_append];exact ho,fun e=>absurd (List.append_eq_nil_iff.1 e).2 hne⟩ hg (fun j hj=>hat.imp (fun q=>q.symm.trans hj) fun q=>by rw [hj] at q;injection q with q;omega)
end
theorem Jmf:PP.underlying Vba=some (.map Qqb Wpc):=by kernel_rfl
theorem Jaa{w:World}{b b':Nat}{e:TypeId}{l ks:List Value}(h:Blk w b e l)(h':MapB w b' ks):b≠b':=fun q=>by
 subst q;obtain ⟨es,c,hb,_⟩:=h';unfold Blk at h;rw [hb] at h;injection h with h;cases h
theorem Zgd{w:World}{base z m b:Nat}{e:TypeId}{v:Value}{xs ks:List Value}(h:w.ownsRow base e z v m xs)(h':MapB w b ks):v.ownBlock≠some b:=fun hk=>by
 obtain ⟨es,c,hb,_⟩:=h';rcases h.2 with ⟨h1,_⟩|⟨g,cap,cur,h1,h2,h3,_⟩;rw [h1] at hk;cases hk;rw [h1] at hk;have:g=b:=by injection hk
 subst this;rw [hb] at h3;injection h3 with h3;cases h3
theorem Jn{a b:Nat}(h:a≠b):some a≠some b:=fun e=>h (Option.some.inj e)
def capsV(pre:List (Nd×Int)):List (Int×Int):=pre.foldl capW []
theorem Vbg{pre:List (Nd×Int)}{x:Nd×Int}(h:((useB x.1&&decide (0<(capC x).1)) && !decide (capC x∈capsV pre))=true):capsV (pre++[x])=capsV pre++[capC x]∧decide (capC x∈capsV pre)=false:=by
 simp only [Bool.and_eq_true,Bool.not_eq_true'] at h;refine ⟨?_,h.2⟩;show (pre++[x]).foldl capW []=_;rw [List.foldl_append];show capW (capsV pre) x=_;unfold capW capS;rw [h.1.1,h.1.2,h.2];rfl
theorem Vcg{pre:List (Nd×Int)}{x:Nd×Int}(h:((useB x.1&&decide (0<(capC x).1)) && !decide (capC x∈capsV pre))=false):capsV (pre++[x])=capsV pre:=by
 show (pre++[x]).foldl capW []=_;rw [List.foldl_append];show capW (capsV pre) x=_;unfold capW capS;rw [Bool.and_assoc] at h;cases h1:useB x.1;rfl;rw [h1,Bool.true_and] at h;rw [h];rfl
theorem Qad:∀ pre:List (Nd×Int),(capsV pre).length≤pre.length:=by
 have key:∀ (pre:List (Nd×Int)) (o:List (Int×Int)),(pre.foldl capW o).length≤o.length+pre.length:=by
  intro pre
  induction pre with
  | nil=>intro o;exact Nat.le_refl _
  | cons x pre ih =>
   intro o;rw [List.foldl_cons,List.length_cons];have:=ih (capW o x)
   have h2:(capW o x).length≤o.length+1:=by
    unfold capW capS;cases useB x.1;rw [cond_false];omega;rw [cond_true];cases (decide (0<(capC x).1) && !decide (capC x∈o));rw [cond_false];omega;rw [cond_true,List.length_append,List.length_singleton];omega
   omega
 intro pre;have:=key pre [];show (pre.foldl capW []).length≤_;simpa using this
structure JC (n0 bo bf bm:Nat) (pre:List (Nd×Int)) (V:Nat→Prop) (A:World):Prop where
  F:Blk A bf Vba [.map (some bm)]
  M:MapB A bm ((capsV pre).map capV)
  ex:∃ s,Blk A bo Wqc [s]∧OwF capCells Qqb 2 n0 A (capsV pre) s∧∀ k,V k↔k=bo∨k=bf∨k=bm∨s.ownBlock=some k
section
variable {D:Nat→Prop} {n0 bo bf bm:Nat}
set_option maxHeartbeats 1000000 in
theorem Jnf(pre:List (Nd×Int))(x:Nd×Int)(V:Nat→Prop)(w:World)(v:Value)(hj:JC n0 bo bf bm pre V w)(hpl:pre.length<1000000)(hn:n0≤w.heap.size) :
 Ret PP Uda #[ndV x.1 v,.int .i64 x.2,.pointer (some ⟨bf,0,none⟩),.pointer (some ⟨bo,0,none⟩)] w fun _ A'=>∃ V',JC n0 bo bf bm (pre++[x]) V' A'∧(∀ k,V' k→V k∨w.heap.size≤k)∧GV V w A':=by
 obtain ⟨hF,hM,s,hB,hO,hV⟩:=hj;obtain ⟨sa,sc,rfl⟩:=hO.slice;have hll:=Qad pre;have hbl:=hB.lt;have hfl:=hF.lt;have hml:=hM.lt;have hV0:=hV;have g:=GV.refl V w;refine Jx (m:=39) Yob O O [(0,True,_),(1,True,_),(2,True,_),(3,True,_)] (Za O (Za O (Za O (Za O (Zp _))))) ?_;refine Zj (Zm (Via O (Zc O) O ?_));intro b4 w4 N4;have l4:=Zza N4 g.size;have hne4:=hO.nnew N4;have g:=g.trans (GV.of_g (N4.g));have hB:=hB.grow (N4.g);have hF:=hF.grow (N4.g);have hM:=hM.grow (N4.g);have hO:=hO.grow (N4.g);have E:=(Xna _).new N4;refine Ze (kq (Zj (Zm (Yj Xca O (Yq Yd O (E.g0.at_ O) (Zq O (Zo O (fun _=>Qnd (Zc O) (Zc O)) (Yj Vg O (Yq Yd O (E.g0.at_ O) (Zba Qd Yka (pqc O (pqc O pq0)) O O (Jg O Qd O ?_)))))))))));intro b6 w6 N6;have l6:=Zza N6 g.size;have hne6:=hO.nnew N6;have g:=g.trans (GV.of_g (N6.g));have hB:=hB.grow (N6.g);have hF:=hF.grow (N6.g);have hM:=hM.grow (N6.g);have hO:=hO.grow (N6.g);replace E:=E.new N6;refine Ymb Jta O O O E.g0 ?_;intro wS1 hgS1 _ BS;replace E:=E.s0 hgS1 BS;have g:=Zwb g hgS1 (by omega);have hB:=hB.keep hgS1 (by intro e;injection e with e;omega);have hF:=hF.keep hgS1 (by intro e;injection e with e;omega);have hM:=hM.keep hgS1 (by intro e;injection e with e;omega);have hO:=hO.keepB hgS1 hne6;refine Ze (kq (Zj (Wc [3,0,3,3,3,0,3,3,3,3,0,3,3,3,0,0,0,3,3] (Yj Xm O (Yq Yd O (E.g1.at_ O) (Zwa O O (Zq O (Zi O O O (fun _=>Zn Qc (Zc O)) (Ye O O O (Zt Yd (Zk O id) (fun _=>E.g1.at_ O)) (Zi O O O (fun _=>Zla (Zk O id) Xg) (Zo O (fun _=>Zz (Zc O) (Zk O id)) (Zq O (Zi O O O (fun _=>Zn Xxa (Zc O)) (Ye O O O (Zt Yd (Zk O id) (fun _=>E.g0.at_ O)) (Zi O O O (fun _=>Zld (Zk O id) Xg) (Zo O (fun _=>Zz (Zc O) (Zk O id)) (?_)))))))))))))))))
 refine Zq O (Ye O O O (Zt Zya (Zc O) (fun _=>hF.at_ O)) (Ye O O O (Zy Zra (Zc O) O (fun _=>E.g0.row)) (Ye O O O (Uzd (f:=capV) (a:=capC x) (Zwf Yia) Jmf Jzc hM (Zk O id) (Zk O id)) (Zi O O O (fun _=>Xwb (Zk O id)) (Zo O (fun _=>Zz (Zc O) (Zk O id)) (Ze (kq (Wm O (fun h1=>?_) (fun h1=>?_)))))))));replace h1:((useB x.1&&decide (0<(capC x).1)) && !decide (capC x∈capsV pre))=true:=h1;obtain ⟨e1,e2⟩:=Vbg h1;refine Zj (Zm (Yq Zya O (hF.at_ O) (Vf Zra O O E.g0.row (Woe (f:=capV) (a:=capC x) O (Zwf Yia) Jmf hM (Zc O) (Zc O) Xg ?_))));intro w33 hM2 hg33;rw [e2,cond_false,← e1] at hM2;have hB:=hB.keep hg33 (Jn (Jaa hB hM));have hF:=hF.keep hg33 (Jn (Jaa hF hM));have hO:=hO.keepM hg33 hM;replace E:=E.keep hg33 (List.forall_mem_cons.2 ⟨fun e=>by injection e with e;omega,List.forall_mem_cons.2 ⟨fun e=>by injection e with e;omega,List.forall_mem_nil _⟩⟩);have g:=Ywc g hg33 ((hV bm).2 (.inr (.inr (.inl rfl))));replace hM:=hM2;refine AU ?_;refine Wy _ O Wp Qd (pqc O pq0) O O ?_;intro b37 w37 N37;have l37:=Zza N37 g.size;have hne37:=hO.nnew N37;have g:=g.trans (GV.of_g (N37.g));have hB:=hB.grow (N37.g);have hF:=hF.grow (N37.g);have hM:=hM.grow (N37.g);have hO:=hO.grow (N37.g);replace E:=E.new N37;refine Zxb O Wp Qd O O Zea (Zc O) hO (Zc O) (Jfb (x:=capC x) E.g0 O) (by simp) (Xea Qxf _) (by simp;omega) O (by have:=g.size;omega) ?_;intro a38 c38 w38 hO2 hg38 hat38;rw [← e1] at hO2 hat38;have hB:=hB.keep hg38 (fun e=>Zka hO.1 hB rfl e.symm);have hF:=hF.keep hg38 (fun e=>Zka hO.1 hF rfl e.symm);have hM:=hM.keep hg38 (fun e=>Zgd hO.1 hM e.symm);have hwg:=g.size;have g:=Xrd g hg38 (fun k hk=>(hV k).2 (.inr (.inr (.inr hk))));refine Ym O Zpb (Zc O) (Zc O) O hB O O ?_;intro w39 hg39 hz39 hB39
 rw [← e1] at hB39;have hF:=hF.keep hg39 (Jn (Wab hF hB rfl));have hM:=hM.keep hg39 (Jn (Jaa hB hM).symm);have hO2:=hO2.keep hg39 hB rfl;have g:=Ywc g hg39 ((hV bo).2 (.inl rfl));refine Ze (Qj O ?_);refine ⟨_,⟨hF,hM,_,hB39,hO2,fun k=>Iff.rfl⟩,fun k hk=>?_,g⟩;rcases hk with q|q|q|q;exact .inl ((hV k).2 (.inl q));exact .inl ((hV k).2 (.inr (.inl q)));exact .inl ((hV k).2 (.inr (.inr (.inl q))));exact (hat38 k q).imp (fun q=>(hV k).2 (.inr (.inr (.inr q)))) (fun q=>by omega);replace h1:((useB x.1&&decide (0<(capC x).1)) && !decide (capC x∈capsV pre))=false:=h1;have e1:=Vcg h1;refine Ya (Qj O ?_);exact ⟨V,⟨hF,by rw [e1];exact hM,_,hB,by rw [e1];exact hO,hV⟩,fun k hk=>.inl hk,g⟩
theorem Qxe:VisJ Uda #[.pointer (some ⟨bf,0,none⟩),.pointer (some ⟨bo,0,none⟩)] D n0 (fun _=>True) (fun pre V A=>JC n0 bo bf bm pre V A) where
 go:=Vmb
 g:=fun pre V A C ⟨hF,hM,s,hB,hO,hV⟩ g=>⟨hF.grow g,hM.grow g,s,hB.grow g,hO.grow g,hV⟩
 keep:=fun pre V A C b ⟨hF,hM,s,hB,hO,hV⟩ hg hb hn=>⟨hF.keep hg (Jn fun e=>hb ((hV b).2 (.inr (.inl e.symm)))),hM.keep hg (Jn fun e=>hb ((hV b).2 (.inr (.inr (.inl e.symm))))),s,
  hB.keep hg (Jn fun e=>hb ((hV b).2 (.inl e.symm))),hO.keepB hg fun k hk e=>hb ((hV b).2 (.inr (.inr (.inr (e▸hk))))),hV⟩
 lt:=fun pre V A ⟨hF,hM,s,hB,hO,hV⟩ k hk=>by
  rcases (hV k).1 hk with e|e|e|e;exact e▸hB.lt;exact e▸hF.lt;exact e▸hM.lt;exact hO.lt k e
 st:=fun pre x V A p c _ hl hj hn hd hk=>Jnf pre x V A _ hj hl hn
end
theorem Vfc(t:Nd)(v:Value)(D:Nat→Prop)(w:World)(hk:Kd w D t.kids v)(hcn:count t≤1000000) :
 Ret PP Zhc #[ndV t v] w fun r w'=>RetF capCells w' (capT t) r∧G w w':=by
 have hk0:Kd w (fun b=>D b∧b<w.heap.size) t.kids v:=hk.lt;have g:=G.refl w;refine WK 13 [0] Vib ?_;refine BM fun _ _ _ _ g E=>?_;refine IF (fun h1=>?_) fun h1=>?_;have e1:capT t=[]:=by unfold capT;rw [show decide (t.kind=38)=false by simpa using h1];rfl
 refine RTN ?_;rw [e1];exact ⟨⟨Qzb _,fun _=>rfl⟩,g⟩;have e1:t.kind=38:=by simpa using h1
 refine AN fun b3 _ _ _ g E=>?_;refine Ze (kq (Zj (Zm (Wpe O ?_))));intro b8 w8 hb8 hg8 hz8 hM;replace E:=E.grow hg8;have hgs:=g.size;have g:=g.trans hg8;refine AN fun b4 _ N4 _ g E=>?_;have hM:=hM.grow (N4.g);refine AS fun _ ga _ g E=>?_;have hM:=hM.keep ga (by intro e;injection e with e;have:=N4.at_;omega);refine Ze (kq (Zj (Zm (Vf Zh rfl rfl E.g2.row (Zo rfl (fun _=>Jwc (aq0) (aqc rfl (aqc rfl aq0))) (CL (Xud (Qxe (D:=fun b=>D b∧b<w.heap.size) (n0:=w.heap.size) (bo:=b3) (bf:=b4) (bm:=b8)) (fun k hk=>hk.2) t v (fun k=>k=b3∨k=b4∨k=b8∨(Value.slice none 0 0).ownBlock=some k) _ g.size (fun k hk h=>by have:=hk.2;rcases h with e|e|e|e;omega;omega;omega;cases e) (hk0.grow g) ⟨E.g0,hM,_,E.g1,Zne _,fun k=>Iff.rfl⟩ (fun x _=>trivial) hcn) ?_))))));rintro v11 w11 ⟨V2,⟨hF,hM,s,hB,hO,hV⟩,hs2,q11⟩;refine ⟨nw1,?_⟩;have g:=g_gb g q11 (fun k hk=>by rcases hk with e|e|e|e;omega;omega;omega;cases e);clear E;rw [show capsV (visN t 0)=capT t from Wie e1] at hO;refine RTN ?_;exact ⟨hO.ret,g⟩
end Go.Rk
