/- Merged texts of one road: Cpc, FldR, FldE, FldS, Fcw, Cpd, Cqg, Cqh, ScanR, Pka, Pkb, Pkc, Pkd, Pke, Pkg, Pki. Conditions: each text's own. -/
import Derived.Test.YtapkdoacegpgaaaGreatDoorA06
import Derived.Test.YtapkdoacegpgaaaGreatDoorA04
import Derived.Test.YtapkdoacegpgaaaGreatDoorA03
import Derived.Test.YtapkdoacegpgaaaGreatDoorA02
import Derived.Test.YtapkdoacegpgaaaGreatDoorA05
set_option linter.unusedSimpArgs false
set_option linter.unusedVariables false
namespace Go.Proofs
end Go.Proofs
namespace Go.Rk
open Go.Proofs
open Go Go.RowKit
structure Cp (t:Nd) (c:Ck):Prop where
  ex:exprB t=true→∀ B T S,EvD B T S→Rs B T (c.ex S)
  mem:t.kind=28→exprB t=true→∀ B T S,EvD B T S→Rs B T ((c.mem S).1.1,(c.mem S).2)
  rcv:t.kind≠28→∀ B T S,EvD B T S→(c.rcv S).2=true→Rs B T ((c.rcv S).1,S)
  cal:exprB t=true→∀ B T S,EvD B T S→Rs B T ((c.cal S).1.1,(c.cal S).2)
  st:stmtB t=true→∀ B T S,EvD B T S→Dcl B T (c.st S)
  blk:blockB t=true→∀ B T S,EvD B T S→Dcl B T (c.blk S)
  ifs:ifB t=true→∀ B T S,EvD B T S→Dcl B T (c.ifs S)
  sts:blockB t=true→∀ B T S,EvD B T S→Dcl B T (c.sts S)
  cas:Qza t=true→∀ f B T S,EvD B T S→Dcl B T (c.cas f S)
section
variable {F t:Nd} {x:Nat→Ck} {B:List (List Dc)} {T:List Dc} {S:CSt}
theorem Xsg{l:List Vr}{s:List UInt8}{v:Vr}(h:Jsb l s=some v):v∈l∧v.name=s:=by
 unfold Jsb at h;have h2:=List.find?_some h;exact ⟨List.mem_reverse.1 (List.mem_of_find?_eq_some h),of_decide_eq_true h2⟩
theorem Xfe(ht:t.kind=27)(h:EvD B T S)(S':CSt)(h':EvD B T S'):Rs B T ((lookR F S t).1,S'):=by
 have hn:notD t.kind=true:=by rw [ht];decide
 unfold lookR;split;rename_i v hv;obtain ⟨hm,hx⟩:=Xsg hv;obtain ⟨l,d,h1,h2,h3,h4⟩:=h.vr v hm;have hlt:=(List.getElem?_eq_some_iff.1 h1).1;rw [List.length_append,List.length_singleton] at hlt;have hlv:=h.lv;refine ⟨h',.mk (fun _=>⟨S.level-v.level,v.num,l,d,by show (S.level:Int)-v.level=_;omega,rfl,by rw [List.length_append,List.length_singleton];omega,?_,h2,h3.trans hx,h4⟩) (Jla hn).2.1 (fun e=>absurd (Vid (x:=.mk t.kind _ _ _ [] _ 1 _) hn) e) (fun e=>absurd e (Jla hn).2.2) (fun k hk=>by cases hk),Vqb hn⟩;rw [List.length_append,List.length_singleton,show B.length+1-1-(S.level-v.level)=v.level by omega];exact h1;cases decide (0≤(findD F 6 t.text).2);cases decide (0≤(findD F 4 t.text).2);exact Vjd h' hn;exact ⟨h',Jic (x:=.mk _ _ _ _ [] _ 3 0) hn (by show (3:Int)≠1;decide) (fun k hk=>by cases hk),Vqb (x:=.mk t.kind _ _ _ [] _ 3 0) hn⟩;exact ⟨h',Jic (x:=.mk _ _ _ _ [] _ 2 0) hn (by show (2:Int)≠1;decide) (fun k hk=>by cases hk),Vqb (x:=.mk t.kind _ _ _ [] _ 2 0) hn⟩
theorem Xtg(X:∀ i,Cp (Zb t i) (x i))(ht:t.kind=28)(hx:exprB t=true)(h:EvD B T S):Rs B T ((memR F t x S).1.1,(memR F t x S).2):=by
 have hn:notD t.kind=true:=by rw [ht];decide
 have h0:=(X 0).ex (sh28 ht hx).2.2 B T S h;unfold memR;dsimp only;cases decide (((x 0).ex S).1.ty.kind=4);exact ((Re.one h0).up fun e=>e.fail _ _).ann hn;simp only [cond_true];split;exact (Re.one h0).ann hn;exact ((Re.one h0).up fun e=>e.fail _ _).ann hn
theorem Yvh(ht:t.kind≠28)(h:EvD B T S)(hr:(rcvR F t x S).2=true):Rs B T ((rcvR F t x S).1,S):=by
 unfold rcvR at hr ⊢;cases h1:decide (t.kind=27);rw [h1,Wdh ht] at hr;cases hr;exact Xfe (of_decide_eq_true h1) h S h
theorem Xug(X:∀ i,Cp (Zb t i) (x i))(hk:t.kids.all exprB=true)(ps:List Ty){ks:List Nd}(h:Re B T ks S):∀ i,i+1≤t.kids.length→Re B T (ks++(argA t x ps S i).1) (argA t x ps S i).2
 | 0,_=>by show Re B T (ks++[]) S;rw [List.append_nil];exact h
 | i+1,hi=>by
  have ih:=Xug X hk ps h i (by omega);show Re B T (ks++((argA t x ps S i).1++[_])) (failU _ _ _ _);rw [← List.append_assoc];exact (ih.snoc fun e=>(X (i+1)).ex (Uu hk hi) B T _ e).up fun e=>e.failu _ _ _
theorem Qqg(X:∀ i,Cp (Zb t i) (x i))(ht:t.kind=30)(hx:exprB t=true)(h:EvD B T S):Rs B T (callR t x S):=by
 have hn:notD t.kind=true:=by rw [ht];decide
 obtain ⟨h1,h2⟩:=sh30 ht hx;have h0:=(X 0).cal (Uu h2 h1) B T S h;exact (Xug X h2 _ ((Re.one h0).up fun e=>e.failu _ _ _) (t.kids.length-1) (by omega)).ann hn
theorem Ywh(V:∀ i,CkV (x i))(X:∀ i,Cp (Zb t i) (x i))(ht:t.kind=38)(hx:exprB t=true)(h:EvD B T S):Rs B T (litR t x S):=by
 obtain ⟨d,k0,k1,k2,k3⟩:=(X 0).blk (sh38 ht hx).2 _ _ _ h.lit;rw [List.nil_append] at k1 k2;have hb:Vs (litS S) ((x 0).blk (litS S)).2:=(V 0).blk _ h.lit.sc
 have hl:locL (annT t [((x 0).blk (litS S)).1] tFunc)=d:=by
  show [((x 0).blk (litS S)).1].flatMap ownD=d;simp [k3]
 have ho:ownD (annT t [((x 0).blk (litS S)).1] tFunc)=[]:=by
  rw [Yid];show dclD (annT t _ _)++(bif decide (t.kind=38) then [] else _)=[];rw [Weh ht];unfold dclD;show (bif decide (t.kind=3) then _ else bif decide (t.kind=6) then _ else bif decide (t.kind=11) then _ else [])++_=_;rw [ht];rfl
 refine (show Rs B T (annT t [((x 0).blk (litS S)).1] tFunc,_) from ⟨h.back k1 hb,.mk (fun hu=>?_) (by show t.kind≠4;rw [ht];decide) (fun _=>Nat.zero_lt_one) (fun _=>by rw [hl];exact k0) fun k hk=>?_,ho⟩);have hu:(decide (t.kind=27)&&decide ((0:Int)=1))=true:=hu;rw [ht] at hu;cases hu;show Us (bif decide (t.kind=38) then _ else _) k;rw [Weh ht,hl];have hk:k∈[((x 0).blk (litS S)).1]:=hk;rw [List.mem_singleton.1 hk];exact k2
theorem cp_op(X:∀ i,Cp (Zb t i) (x i))(hx:exprB t=true)(hk:t.kind∈([29,31,32,33,35,36,37]:List Int))(h:EvD B T S):Rs B T (opR t x S):=by
 have hn:notD t.kind=true:=by
  simp only [List.mem_cons,List.not_mem_nil,or_false] at hk;rcases hk with e|e|e|e|e|e|e <;> (rw [e];decide)
 have h0:exprB (Zb t 0)=true:=by
  simp only [List.mem_cons,List.not_mem_nil,or_false] at hk;rcases hk with e|e|e|e|e|e|e;exact (sh29 e hx).2.1;exact (sh31 e hx).2.2;exact (sh32 e hx).2.2.1;exact (sh33 e hx).2;exact (sh35 e hx).2;exact (sh36 e hx).2;exact (sh37 e hx).2
 have a:=Re.one ((X 0).ex h0 B T S h);unfold opR;dsimp only [wantS];cases h29:decide (t.kind=29);case true=>exact (((a.up fun e=>e.failu _ _ _).snoc fun e=>(X 1).ex (sh29 (of_decide_eq_true h29) hx).2.2 B T _ e).up fun e=>e.failu _ _ _).ann hn
 cases h31:decide (t.kind=31);case true=>exact (a.up fun e=>e.failu _ _ _).ann hn
 cases h32:decide (t.kind=32);case true=>exact ((a.snoc fun e=>(X 1).ex (sh32 (of_decide_eq_true h32) hx).2.2.2 B T _ e).up fun e=>e.failu _ _ _).ann hn
 simp only [cond_false];cases decide (t.kind=33);case true=>exact (a.up fun e=>e.failu _ _ _).ann hn
 cases decide (t.kind=37);case true=>exact (a.up fun e=>e.failu _ _ _).ann hn
 cases decide (t.kind=35);case true=>exact (a.up fun e=>e.failu _ _ _).ann hn
 cases decide (t.kind=36);case true=>exact (a.up fun e=>e.failu _ _ _).ann hn
 exact a.ann hn
theorem Zch(V:∀ i,CkV (x i))(X:∀ i,Cp (Zb t i) (x i))(hx:exprB t=true)(h:EvD B T S):Rs B T (exR F t x S):=by
 unfold exR;cases h24:decide (t.kind=24);case true=>exact (Qrc h).ann (by rw [of_decide_eq_true h24];decide)
 cases h25:decide (t.kind=25);case true=>exact (Qrc h).ann (by rw [of_decide_eq_true h25];decide)
 cases h26:decide (t.kind=26);case true=>exact (Qrc h).ann (by rw [of_decide_eq_true h26];decide)
 cases h38:decide (t.kind=38);case true=>exact Ywh V X (of_decide_eq_true h38) hx h
 cases h30:decide (t.kind=30);case true=>exact Qqg X (of_decide_eq_true h30) hx h
 cases h27:decide (t.kind=27);case true=>exact Xfe (of_decide_eq_true h27) h _ ((h.failu _ _ _).cond (h.fail _ _))
 cases h28:decide (t.kind=28);case true=>exact (Xtg X (of_decide_eq_true h28) hx h).up fun e=>e.failu _ _ _
 cases h34:decide (t.kind=34);case true=>exact (Qrc (h.failu _ _ _)).ann (by rw [of_decide_eq_true h34];decide)
 refine cp_op X hx ?_ h;have hx:=(Bool.and_eq_true_iff.1 hx).1;unfold expK at hx;rw [Xtb] at hx;simp only [decide_eq_false_iff_not] at h24 h25 h26 h38 h30 h27 h28 h34;simp only [List.mem_cons,List.not_mem_nil,or_false] at hx ⊢;omega
theorem Yxh(V:∀ i,CkV (x i))(X:∀ i,Cp (Zb t i) (x i))(hx:exprB t=true)(h:EvD B T S):Rs B T ((calR F t x S).1.1,(calR F t x S).2):=by
 unfold calR;dsimp only;cases h1:(decide (t.kind=28)&&((x 0).rcv S).2);simp only [cond_false];cases h2:(decide (t.kind=27)&&((lookR F S t).2&&decide ((lookR F S t).1.ref=3)));exact (Zch V X hx h).up fun e=>e.failu _ _ _;exact Xfe (of_decide_eq_true (Bool.and_eq_true_iff.1 h2).1) h S h;obtain ⟨h1,h2⟩:=Bool.and_eq_true_iff.1 h1;have ht:=of_decide_eq_true h1
 have h0:Rs B T (rcvX t x S):=by
  unfold rcvX;cases h3:decide ((Zb t 0).kind=28);exact (X 0).rcv (of_decide_eq_false h3) B T S h h2;exact (X 0).mem (of_decide_eq_true h3) (sh28 ht hx).2.2 B T S h
 exact ((Re.one h0).up fun e=>e.failu _ _ _).ann (by rw [ht];decide)
theorem Xvg(X:∀ i,Cp (Zb t i) (x i))(hb:blockB t=true)(h:EvD B T S):Dcl B T (stsR t x S):=by
 have key:∀ i,i≤t.kids.length→Rl B T (stA x S i).1 (stA x S i).2:=fun i=>by
  induction i with
  | zero=>exact fun _=>Xrg h
  | succ i ih=>exact fun hi=>(ih (by omega)).snoc fun T' e=>(X i).st (Uu (sh10 hb) hi) B T' _ e
 exact (key _ (Nat.le_refl _)).ann (by rw [Zmb hb];decide)
theorem Xwg(V:∀ i,CkV (x i))(X:∀ i,Cp (Zb t i) (x i))(hb:blockB t=true)(h:EvD B T S):Dcl B T (blkR t x S) :=
 (Xvg X hb h.open).up fun T' e=>e.shut ((Zxf V h.sc).sc h.sc)
theorem Xrf(X:∀ i,Cp (Zb t i) (x i))(hx:noneB (Zb t 0)=true∨exprB (Zb t 0)=true)(h:EvD B T S):Rs B T (condR (Zb t 0) (x 0) S):=by
 unfold condR;cases h1:decide ((Zb t 0).kind=9);refine ((X 0).ex (hx.resolve_left fun q=>of_decide_eq_false h1 (Wba q).1) B T S h).up fun e=>e.failu _ _ _;exact Vjd h (by rw [of_decide_eq_true h1];decide)
theorem Zdh(X:∀ i,Cp (Zb t i) (x i))(hb:ifB t=true)(h:EvD B T S):Dcl B T (ifR t x S):=by
 obtain ⟨_,h0,h1,h2⟩:=sh18 hb;have hk:t.kind=18:=of_decide_eq_true (Bool.and_eq_true_iff.1 hb).1;have a:=(Re.one (Xrf X (.inr h0) h)).rl.snoc fun T' e=>(X 1).blk h1 B T' _ e;unfold ifR;dsimp only;refine Rl.ann (ks:=[_,_]++[_]) (a.snoc fun T' e=>?_) (by rw [hk];decide);cases h3:decide ((Zb t 2).kind=10);cases h4:decide ((Zb t 2).kind=18);refine (Vjd e ?_).rd;rcases h2 with q|q|q;rw [Zmb q] at h3;cases h3;rw [show (Zb t 2).kind=18 from of_decide_eq_true (Bool.and_eq_true_iff.1 q).1] at h4;cases h4;rw [(Wba q).1];decide;refine (X 2).ifs ?_ B T' _ e;have h4:=of_decide_eq_true h4;rcases h2 with q|q|q;rw [Zmb q] at h4;cases h4;exact q;rw [(Wba q).1] at h4;cases h4;refine (X 2).blk ?_ B T' _ e;have h3:=of_decide_eq_true h3;rcases h2 with q|q|q;exact q;rw [show (Zb t 2).kind=18 from of_decide_eq_true (Bool.and_eq_true_iff.1 q).1] at h3;cases h3;rw [(Wba q).1] at h3;cases h3
theorem Yyh(V:∀ i,CkV (x i))(X:∀ i,Cp (Zb t i) (x i))(hb:Qza t=true)(f:Bool)(h:EvD B T S):Dcl B T (casR t x f S):=by
 obtain ⟨hk,_,hc,hb1⟩:=sh23 hb
 have a:Dcl B T (bif decide ((Zb t 0).kind=9) then (clnT (Zb t 0),failU f t.pos 6 (openS S)) else (x 0).st (openS S)):=by
  cases h1:decide ((Zb t 0).kind=9);exact (X 0).st ((Jjd hc).resolve_left (of_decide_eq_false h1)) B T _ h.open;exact (Vjd (h.open.failu _ _ _) (by rw [of_decide_eq_true h1];decide)).rd
 have hs:Sc (casR t x f S).2:=(Xfg V f h.sc).sc h.sc;exact Rl.ann (((Rl.one a).snoc fun T' e=>(X 1).sts hb1 B T' _ e).up fun T' e=>e.shut hs) (by rw [hk];decide)
theorem Yzh(X:∀ i,Cp (Zb t i) (x i))(ht:t.kind=22)(hb:stmtB t=true)(h:EvD B T S):Dcl B T (selR t x S):=by
 have key:∀ i,i≤t.kids.length→Rl B T (selA t x S i).1 (selA t x S i).2.2:=fun i=>by
  induction i with
  | zero=>exact fun _=>Xrg h
  | succ i ih=>exact fun hi=>(ih (by omega)).snoc fun T' e=>(X i).cas (Uu (sh22 ht hb) hi) _ B T' _ e
 exact (key _ (Nat.le_refl _)).ann (by rw [ht];decide)
theorem Xxg{ks:List Nd}{s:List UInt8}{y:Ty}{a:Int}(h:Re B T ks S)(hk:t.kind=6∨t.kind=11)(hs:s=t.text)(hd:dclD (dclT t ks (declN S))=[⟨t.text,y,false⟩])(hne:0<ks.length):Dcl B T (dclT t ks (declN S),declS s y a S):=by
 subst hs;have h38:decide (t.kind=38)=false:=by rcases hk with e|e <;> (rw [e];rfl)
 obtain ⟨h1,h2,h3⟩:=h;refine ⟨[⟨t.text,y,false⟩],fun x hx=>by rw [List.mem_singleton.1 hx],h1.decl _ _ _ _,.mk (fun hu=>?_) (by show t.kind≠4;rcases hk with e|e <;> (rw [e];decide)) (fun _=>hne) (fun e=>absurd e (of_decide_eq_false h38)) (fun k hm=>?_),?_⟩
 have hu:(decide (t.kind=27)&&_)=true:=hu;rcases hk with e|e <;> (rw [e] at hu;cases hu)
 show Us (bif decide (t.kind=38) then _ else _) k;rw [h38];exact (h2 k hm).mono Ulc;rw [Yid,hd];show _++(bif decide (t.kind=38) then [] else ks.flatMap ownD)=_;rw [h38,h3];rfl
theorem Xah(X:∀ i,Cp (Zb t i) (x i))(ht:t.kind=6)(hb:varB t=true)(h:EvD B T S):Dcl B T (varR F t x S):=by
 obtain ⟨_,_,h0,h1⟩:=sh6 hb;unfold varR;dsimp only;refine Xxg (ks:=[_]++[_]) ((Re.one (Yuh (h.local F (Zb t 0)) h0)).snoc fun e=>?_) (.inl ht) O ?_ (by simp);cases h2:decide ((Zb t 1).kind=9);exact ((X 1).ex (h1.resolve_left fun q=>of_decide_eq_false h2 (Wba q).1) B T _ e).up fun e=>e.failu _ _ _;exact Vjd e (by rw [of_decide_eq_true h2];decide);unfold dclD;show (bif decide (t.kind=3) then _ else bif decide (t.kind=6) then _ else bif decide (t.kind=11) then _ else _)=_;rw [ht];show [(⟨t.text,(ofF (plainT (Zb t 0))).1,false⟩:Dc)]=_;rw [Qae]
theorem Xbh(X:∀ i,Cp (Zb t i) (x i))(ht:t.kind=11)(hb:stmtB t=true)(h:EvD B T S):Dcl B T (defR t x S):=by
 obtain ⟨_,_,h0⟩:=sh11 ht hb;unfold defR;dsimp only;refine Xxg ((Re.one ((X 0).ex h0 B T S h)).up fun e=>e.failu _ _ _) (.inr ht) O ?_ (by simp);unfold dclD;show (bif decide (t.kind=3) then _ else bif decide (t.kind=6) then _ else bif decide (t.kind=11) then _ else _)=_;rw [ht];rfl
theorem cp_st(V:∀ i,CkV (x i))(X:∀ i,Cp (Zb t i) (x i))(hb:stmtB t=true)(h:EvD B T S):Dcl B T (stR F t x S):=by
 have e2:∀ {k:Int},t.kind=k→notD k=true→notD t.kind=true:=fun q r=>q▸r;unfold stR;dsimp only;cases h10:decide (t.kind=10);case true=>exact Xwg V X (sh10s (of_decide_eq_true h10) hb) h
 cases h18:decide (t.kind=18);case true=>exact Zdh X (sh18s (of_decide_eq_true h18) hb) h
 cases h12:decide (t.kind=12)
 case true =>
  have ht:=of_decide_eq_true h12;obtain ⟨_,h0,h1⟩:=sh12 ht hb;exact (((((Re.one ((X 0).ex h0 B T S h)).up fun e=>e.failu _ _ _).snoc fun e=>(X 1).ex h1 B T _ e).up fun e=>e.failu _ _ _).ann (by rw [ht];decide)).rd
 cases h22:decide (t.kind=22);case true=>exact Yzh X (of_decide_eq_true h22) hb h
 cases h6:decide (t.kind=6);case true=>exact Xah X (of_decide_eq_true h6) (sh6s (of_decide_eq_true h6) hb) h
 cases h11:decide (t.kind=11);case true=>exact Xbh X (of_decide_eq_true h11) hb h
 cases h19:decide (t.kind=19)
 case true =>
  have ht:=of_decide_eq_true h19;obtain ⟨_,h0,h1⟩:=sh19 ht hb;exact ((Re.one (Xrf X h0 h)).rl.snoc fun T' e=>(X 1).blk h1 B T' _ e).ann (by rw [ht];decide)
 cases h20:decide (t.kind=20)
 case true =>
  have ht:=of_decide_eq_true h20;obtain ⟨h1,h2⟩:=sh20 ht hb;simp only [cond_false,cond_true];unfold retR;dsimp only;cases h3:decide ((t.kids.length:Int)=1);exact ((Qrc (h.failu _ _ _)).ann (by rw [ht];decide)).rd;have h3:=of_decide_eq_true h3;exact (((Re.one ((X 0).ex (Uu h2 (by omega)) B T _ (h.failu _ _ _))).up fun e=>e.failu _ _ _).ann (by rw [ht];decide)).rd
 simp only [decide_eq_false_iff_not] at h6 h11;have hn:notD t.kind=true:=((Qpg hb).resolve_left h6).resolve_left h11
 have h0:exprB (Zb t 0)=true:=by
  have hx:=(Bool.and_eq_true_iff.1 hb).1;unfold stK at hx;rw [Xtb] at hx;simp only [List.mem_cons,List.not_mem_nil,or_false] at hx;simp only [decide_eq_false_iff_not] at h10 h18 h12 h22 h19 h20;rcases hx with e|e|e|e|e|e|e|e|e|e|e|e|e|e;exact absurd e h6;exact absurd e h10;exact absurd e h11;exact absurd e h12;exact (sh13 e hb).2;exact (sh14 e hb).2;exact (sh15 e hb).2;exact (sh16 e hb).2.1;exact (sh17 e hb).2;exact (sh21 e hb).2;exact absurd e h18;exact absurd e h19;exact absurd e h20;exact absurd e h22
 have a:=Re.one ((X 0).ex h0 B T S h);simp only [cond_false,wantS];cases h16:decide (t.kind=16);case true=>exact ((((a.up fun e=>e.failu _ _ _).snoc fun e=>(X 1).ex (sh16 (of_decide_eq_true h16) hb).2.2 B T _ e).up fun e=>e.failu _ _ _).ann hn).rd
 cases decide (t.kind=17);case true=>exact ((a.up fun e=>e.failu _ _ _).ann hn).rd
 cases decide (t.kind=21);case true=>exact ((a.up fun e=>e.failu _ _ _).ann hn).rd
 exact (a.ann hn).rd
theorem cp_f(V:∀ i,CkV (x i))(X:∀ i,Cp (Zb t i) (x i)):Cp t (ckF F t x) :=
 ⟨fun hx B T S h=>Zch V X hx h,fun ht hx B T S h=>Xtg X ht hx h,fun ht B T S h hr=>Yvh ht h hr,fun hx B T S h=>Yxh V X hx h,fun hb B T S h=>cp_st V X hb h,fun hb B T S h=>Xwg V X hb h,
  fun hb B T S h=>Zdh X hb h,fun hb B T S h=>Xvg X hb h,fun hb f B T S h=>Yyh V X hb f h⟩
end
theorem cp_0:Cp nd0 ck0:=by
 have he:exprB nd0=false:=by decide
 have hs:stmtB nd0=false:=by decide
 have hb:blockB nd0=false:=by decide
 have hi:ifB nd0=false:=by decide
 have hc:Qza nd0=false:=by decide
 refine ⟨fun h=>?_,fun _ h=>?_,fun _ _ _ _ _ h=>(by cases h),fun h=>?_,fun h=>?_,fun h=>?_,fun h=>?_,fun h=>?_,fun h=>?_⟩;rw [he] at h;cases h;rw [he] at h;cases h;rw [he] at h;cases h;rw [hs] at h;cases h;rw [hb] at h;cases h;rw [hi] at h;cases h;rw [hb] at h;cases h;rw [hc] at h;cases h
theorem cp_t(F:Nd):∀ t,Cp t (ckT F t):=by
 refine Nd.ind fun t ih=>?_;rw [Yxa];refine cp_f (fun i=>ckv_x F t i) fun i=>?_;by_cases h:i<t.kids.length;rw [Vv h,Wc h];exact ih _ (List.getElem_mem h);rw [ckX,Zb];simp only [List.getD_eq_getElem?_getD,List.getElem?_map];rw [List.getElem?_eq_none (by omega)];exact cp_0
structure FnOk (C:List (List Dc)) (t:Nd):Prop where
  us:∀ k∈t.kids,Us (C++[locL t]) k
  par:∃ a b,locL t=a++b∧(∀ d∈a,d.par=true)∧∀ d∈b,d.par=false
theorem Qrg{C:List (List Dc)}{x:Nd}(h:Us C x):∀ y∈listN x,y.kind≠4∧(y.kind=38→∃ C',C'.length+count y≤C.length+count x∧FnOk C' y):=by
 induction h with
 | @mk C x h1 h2 h0 h3 h4 ih =>
  intro y hy;rw [Xua] at hy;rcases List.mem_cons.1 hy with e|hy;subst e;refine ⟨h2,fun e=>⟨C,Nat.le_refl _,fun k hk=>?_,[],_,rfl,fun _ h=>(by cases h),h3 e⟩⟩;have:=h4 k hk;rwa [Weh e] at this;obtain ⟨k,hk,hy⟩:=List.mem_flatMap.1 hy;obtain ⟨q1,q2⟩:=ih k hk y hy;refine ⟨q1,fun e=>?_⟩;obtain ⟨C',hc,hf⟩:=q2 e;refine ⟨C',?_,hf⟩;have hm:=Jp hk;revert hc;cases decide (x.kind=38);intro hc;have hc:C'.length+count y≤C.length+count k:=hc;omega;intro hc;have hc:C'.length+count y≤(C++[locL x]).length+count k:=hc;rw [List.length_append,List.length_singleton] at hc;omega
theorem Xch(S:CSt):EvD [] [] (funS0 S):=⟨(fun v hv=>by cases hv),rfl,rfl,(fun v hv=>by cases hv)⟩
theorem Xyg{C:List (List Dc)}{t:Nd}(ht:notD t.kind=true)(hk:t.kids=[]):Us C (plainT t):=by
 rw [Via,hk];exact Jic (x:=.mk t.kind t.text (numS t) t.pos [] ty0 0 0) ht (by show (0:Int)≠1;decide) (fun k hk=>by cases hk)
theorem Xsf{t:Nd}(ht:notD t.kind=true)(hk:t.kids=[]):ownD (plainT t)=[]:=by
 rw [Via,hk];exact Vqb (x:=.mk t.kind t.text (numS t) t.pos [] ty0 0 0) ht
theorem Xtf{t:Nd}(h:t.kids.length=1):t.kids=[Zb t 0]:=by
 unfold Zb
 match t.kids,h with
 | [a],_=>rfl
theorem Xzg{F p:Nd}(S:CSt)(hp:∀ f∈p.kids,f.kind=3∧permF f=true):∀ i,i≤p.kids.length→∃ d,(∀ x∈d,x.par=true)∧EvD [] d (parA F p (funS0 S) i).2∧(∀ k∈(parA F p (funS0 S) i).1,Us [d] k)∧(parA F p (funS0 S) i).1.flatMap ownD=d
 | 0,_=>⟨[],(fun _ h=>by cases h),Xch S,(fun _ h=>by cases h),rfl⟩
 | i+1,hi=>by
  obtain ⟨d,h0,h1,h2,h3⟩:=Xzg (F:=F) S hp i (by omega);have hf:=hp (Zb p i) (by rw [Wc hi];exact List.getElem_mem hi);obtain ⟨hl,ht⟩:=pf3 hf.1 hf.2;obtain ⟨t1,t2⟩:=Jxb ht;obtain ⟨f,hfe⟩:∃ f,f=Zb p i:=⟨_,rfl⟩;rw [← hfe] at hf hl ht t1 t2;have hks:f.kids.map plainT=[plainT (Zb f 0)]:=by rw [Xtf hl];rfl
  have hd:dclD (.mk f.kind f.text (declN (parA F p (funS0 S) i).2) f.pos (f.kids.map plainT) ty0 1 0)=[⟨f.text,(ofF (Zb f 0)).1,true⟩]:=by
   unfold dclD;show (bif decide (f.kind=3) then [(⟨f.text,(ofF ((f.kids.map plainT).getD 0 nd0)).1,true⟩:Dc)] else _)=_;rw [hf.1,hks];show [(⟨f.text,(ofF (plainT (Zb f 0))).1,true⟩:Dc)]=_;rw [Qae]
  refine ⟨d++[⟨f.text,(ofF (Zb f 0)).1,true⟩],fun x hx=>?_,?_,fun k hk=>?_,?_⟩;rcases List.mem_append.1 hx with hx|hx;exact h0 x hx;rw [List.mem_singleton.1 hx];rw [parA,← hfe];exact (h1.decl _ _ _ _).local _ _;rw [parA,← hfe] at hk;rcases List.mem_append.1 hk with hk|hk;exact (h2 k hk).mono (Ulc (B:=[]));rw [List.mem_singleton.1 hk];refine .mk (fun hu=>?_) (by show f.kind≠4;rw [hf.1];decide) (fun _=>by show 0<(f.kids.map plainT).length;rw [hks];exact Nat.zero_lt_one) (fun e=>absurd (show f.kind=38 from e) (by rw [hf.1];decide)) fun k hk=>?_;have hu:(decide (f.kind=27)&&_)=true:=hu;rw [hf.1] at hu;cases hu;have hk:k∈f.kids.map plainT:=hk;rw [hks] at hk;rw [List.mem_singleton.1 hk];exact Xyg t1 t2;rw [parA,← hfe,List.flatMap_append,h3,List.flatMap_cons,List.flatMap_nil,List.append_nil,Yid,hd];show d++([_]++(bif decide (f.kind=38) then [] else (f.kids.map plainT).flatMap ownD))=_;rw [hf.1,hks];show d++([_]++([plainT (Zb f 0)].flatMap ownD))=_;rw [List.flatMap_cons,Xsf t1 t2];rfl
theorem Xdh{F n:Nd}(S:CSt)(hk:n.kind=4)(hp:permF n=true):FnOk [] (funR F n S).1:=by
 obtain ⟨_,⟨p1,p2⟩,hr,b1,b2⟩:=pf4 hk hp;obtain ⟨d,h0,h1,h2,h3⟩:=Xzg (F:=F) S (Wcb (.inr p1) p2) _ (Nat.le_refl _);have hs1:EvD [] d (funS1 F n S):=h1.same rfl rfl rfl rfl
 have hs2:EvD [] d (funS2 F n S):=by
  unfold funS2;cases decide ((Zb n 1).kind=9);exact (hs1.local F (Zb n 1)).same rfl rfl rfl rfl;exact hs1
 have hb:blockB (Zb n 2)=true:=by unfold blockB;rw [b1,b2];rfl
 obtain ⟨d2,k0,_,k2,k3⟩:=(cp_t F (Zb n 2)).sts hb [] d _ hs2
 have hrt:notD (Zb n 1).kind=true∧(Zb n 1).kids=[]:=hr.elim Jxb fun q=>by
  obtain ⟨q1,_,q3⟩:=Wba q;exact ⟨by rw [q1];decide,List.length_eq_zero_iff.1 q3⟩
 have hpk:notD (Zb n 0).kind=true:=by rw [p1];decide
 have hl:locL (funR F n S).1=d++d2:=by
  show [annT (Zb n 0) _ ty0,plainT (Zb n 1),((ckT F (Zb n 2)).sts (funS2 F n S)).1].flatMap ownD=_;rw [List.flatMap_cons,List.flatMap_cons,List.flatMap_cons,List.flatMap_nil,k3,Xsf hrt.1 hrt.2,Vqb (x:=annT (Zb n 0) _ ty0) hpk];show (parA F (Zb n 0) (funS0 S) (Zb n 0).kids.length).1.flatMap ownD++([]++(d2++[]))=_;rw [h3,List.append_nil,List.nil_append]
 refine ⟨fun k hm=>?_,d,d2,hl,h0,k0⟩;rw [hl];have hm:k∈[annT (Zb n 0) (parA F (Zb n 0) (funS0 S) (Zb n 0).kids.length).1 ty0,plainT (Zb n 1),((ckT F (Zb n 2)).sts (funS2 F n S)).1]:=hm;simp only [List.mem_cons,List.not_mem_nil,or_false] at hm;rcases hm with e|e|e;subst e;exact Jic (x:=annT _ _ ty0) hpk (by show (0:Int)≠1;decide) fun k hk=>(h2 k hk).mono (Ulc (B:=[]));subst e;exact Xyg hrt.1 hrt.2;subst e;exact k2
theorem Qbe(F:Nd)(S:CSt):∀ i,i≤F.kids.length→∀ x∈(dclA F S i).1,∃ d∈F.kids,∃ S',x=(dclR F d S').1
 | 0,_,x,hx=>by cases hx
 | i+1,hi,x,hx=>by
  rw [dclA] at hx;rcases List.mem_append.1 hx with hx|hx;exact Qbe F S i (by omega) x hx;exact ⟨Zb F i,by rw [Wc hi];exact List.getElem_mem hi,_,List.mem_singleton.1 hx⟩
theorem Wjc{t:Nd}(h:t.kids=[]):listN (plainT t)=[plainT t]:=by rw [Xua,Xva,h];rfl
theorem Uwa(t:Nd):(plainT t).kind=t.kind:=by rw [Via];rfl
theorem Qsg{F:Nd}(hv:validB F=true){y:Nd}(hy:y∈listN (refA F))(hk:y.kind=4∨y.kind=38):∃ C,(y.kind=4→C=[])∧C.length≤count (refA F)∧FnOk C y:=by
 obtain ⟨h1,hp⟩:=Wic hv;have hd:=Vhd h1 hp;have hform:=Uva hp;rw [Yua,h1] at hform;have hform:((!(F.kids.any fileVarB)&&everyB F (memK [2,6,4]))&&F.kids.all permF)=true:=hform;simp only [Bool.and_eq_true,Bool.not_eq_true',List.any_eq_false] at hform;have hfv:=hform.1.1;rw [Xua] at hy;rcases List.mem_cons.1 hy with e|hy;exfalso;subst e;have:(refA F).kind=F.kind:=rfl;rw [this,h1] at hk;revert hk;decide;obtain ⟨x,hx,hy⟩:=List.mem_flatMap.1 hy;have hxc:=Jp hx;obtain ⟨d,hm,S',e⟩:=Qbe F _ _ (Nat.le_refl _) x hx;obtain ⟨hdk,hdp⟩:=hd d hm;rcases hdk with h|h|h;exfalso;have e:x=plainT d:=by rw [e];unfold dclR;rw [h];rfl
 rw [e,Xua] at hy;rcases List.mem_cons.1 hy with e|hy;subst e;rw [Uwa,h] at hk;revert hk;decide;rw [Xva] at hy;obtain ⟨f',hf',hy⟩:=List.mem_flatMap.1 hy;obtain ⟨f,hf,rfl⟩:=List.mem_map.1 hf';obtain ⟨f1,f2⟩:=Wcb (.inl h) hdp f hf;obtain ⟨l1,l2⟩:=pf3 f1 f2;obtain ⟨t1,t2⟩:=Jxb l2;rw [Xua] at hy;rcases List.mem_cons.1 hy with e|hy;subst e;rw [Uwa,f1] at hk;revert hk;decide;rw [Xva,Xtf l1] at hy;obtain ⟨g',hg',hy⟩:=List.mem_flatMap.1 hy;rw [List.mem_singleton.1 (show g'∈[plainT (Zb f 0)] from hg'),Wjc t2] at hy;rw [List.mem_singleton.1 hy,Uwa] at hk;have:=Jla t1;exact hk.elim this.2.1 this.2.2;exfalso;have e:x=plainT d:=by rw [e];unfold dclR;rw [h];rfl
 obtain ⟨l1,l2,l3⟩:=pf6 h hdp;obtain ⟨t1,t2⟩:=Jxb l2
 have h9:(Zb d 1).kind=9:=by
  have:=hfv d hm;unfold fileVarB at this;rw [h] at this;simp [lenK,l1] at this;exact this
 have h90:(Zb d 1).kids=[]:=by
  have:=Uva l3;rw [Yua,h9] at this;have this:(lenK (Zb d 1) 0&&(Zb d 1).kids.all permF)=true:=this;have this:=(Bool.and_eq_true_iff.1 this).1;unfold lenK at this;simpa using this
 rw [e,Xua] at hy;rcases List.mem_cons.1 hy with e|hy;subst e;rw [Uwa,h] at hk;revert hk;decide;rw [Xva] at hy;obtain ⟨f',hf',hy⟩:=List.mem_flatMap.1 hy;obtain ⟨f,hf,rfl⟩:=List.mem_map.1 hf';obtain ⟨i,hi,rfl⟩:=List.getElem_of_mem hf;rw [← Wc hi] at hy;have hi2:i=0∨i=1:=by omega
 rcases hi2 with rfl|rfl;rw [Wjc t2] at hy;rw [List.mem_singleton.1 hy,Uwa] at hk;have:=Jla t1;exact hk.elim this.2.1 this.2.2;rw [Wjc h90] at hy;rw [List.mem_singleton.1 hy,Uwa,h9] at hk;revert hk;decide;have e:x=(funR F d S').1:=by rw [e];unfold dclR;rw [h];rfl
 have hf:=Xdh (F:=F) S' h hdp;rw [← e] at hf;rw [Xua] at hy;rcases List.mem_cons.1 hy with ey|hy;subst ey;exact ⟨[],fun _=>rfl,Nat.zero_le _,hf⟩;obtain ⟨k,hkm,hy⟩:=List.mem_flatMap.1 hy;obtain ⟨q1,q2⟩:=Qrg (hf.us k hkm) y hy;obtain ⟨C',hc,hq⟩:=q2 (hk.resolve_left q1);refine ⟨C',fun e=>absurd e q1,?_,hq⟩;have:=Jp hkm;have hc:C'.length+count y≤1+count k:=hc;omega
structure Cn (n:Nat) (c:Ck):Prop where
  ex:∀ S,count (c.ex S).1≤n
  mem:∀ S,count (c.mem S).1.1≤n
  rcv:∀ S,count (c.rcv S).1≤n
  cal:∀ S,count (c.cal S).1.1≤n
  st:∀ S,count (c.st S).1≤n
  blk:∀ S,count (c.blk S).1≤n
  ifs:∀ S,count (c.ifs S).1≤n
  sts:∀ S,count (c.sts S).1≤n
  cas:∀ f S,count (c.cas f S).1≤n
theorem Wd(n:Nd)(ks:List Nd)(y:Ty):count (annT n ks y)=1+(ks.map count).sum:=Uw _
theorem Wdb(k:Int)(x:List UInt8)(n a:Int)(ks:List Nd)(y:Ty)(r u:Int):count (.mk k x n a ks y r u)=1+(ks.map count).sum:=Uw _
theorem Web(n:Nd):count (clnT n)=1:=Uw _
theorem Zqc:count nd0=1:=by decide
section
variable {F t:Nd} {x:Nat→Ck}
theorem Xge(S:CSt):count (lookR F S t).1=1:=by
 unfold lookR;split;exact Wdb ..;cases decide (0≤(findD F 6 t.text).2);cases decide (0≤(findD F 4 t.text).2);exact Web t;exact Wdb ..;exact Wdb ..
theorem Xhe:cN t 0+cN t 1+cN t 2+1≤count t:=by
 have:=Vza t 3;simp only [sC] at this;omega
theorem Zzf(X:∀ i,Cn (4*cN t i+1) (x i))(S:CSt):count (memR F t x S).1.1≤4*count t:=by
 have h:=(X 0).ex S;have h3:=Xhe (t:=t);unfold memR;dsimp only;cases decide (((x 0).ex S).1.ty.kind=4);simp only [cond_false,Wd,List.map_cons,List.map_nil,List.sum_cons,List.sum_nil];omega;simp only [cond_true];split <;> (simp only [Wd,List.map_cons,List.map_nil,List.sum_cons,List.sum_nil];omega)
theorem Wag(Xr:∀ i,i<t.kids.length→Cn (4*cN t i) (x i))(ps:List Ty)(S:CSt):∀ i,i+1≤t.kids.length→((argA t x ps S i).1.map count).sum+4*cN t 0≤4*sC t (i+1)
 | 0,_=>by show 0+_≤4*(sC t 0+cN t 0);simp only [sC];omega
 | i+1,hi=>by
  have ih:=Wag Xr ps S i (by omega);have h:=(Xr (i+1) (by omega)).ex (argA t x ps S i).2;show (((argA t x ps S i).1++[_]).map count).sum+_≤4*(sC t (i+1)+cN t (i+1));rw [List.map_append,List.sum_append];simp only [List.map_cons,List.map_nil,List.sum_cons,List.sum_nil];omega
theorem Qtg(X:∀ i,Cn (4*cN t i+1) (x i))(Xr:∀ i,i<t.kids.length→Cn (4*cN t i) (x i))(S:CSt):count (callR t x S).1≤4*count t:=by
 have h:=(X 0).cal S;unfold callR;dsimp only;rw [Wd,List.map_cons,List.sum_cons];by_cases hl:1≤t.kids.length;have ha:=Wag Xr ((x 0).cal S).1.2.1 (failU (decide ((t.kids.length:Int)-1=((x 0).cal S).1.2.1.length)) t.pos 7 ((x 0).cal S).2) (t.kids.length-1) (by omega);have hs:=Vza t (t.kids.length-1+1);omega;have e:t.kids.length-1=0:=by omega
 have h3:=Xhe (t:=t);rw [e];show 1+(_+0)≤_;omega
theorem cn_op(X:∀ i,Cn (4*cN t i+1) (x i))(S:CSt):count (opR t x S).1≤4*count t:=by
 have h:=(X 0).ex S;have h3:=Xhe (t:=t);unfold opR;dsimp only [wantS];cases decide (t.kind=29)
 case true =>
  have h1:=(X 1).ex (failU (decide (((x 0).ex S).1.ty.kind=5)) (Zb t 0).pos 7 ((x 0).ex S).2);simp only [cond_true,Wd,List.map_cons,List.map_nil,List.sum_cons,List.sum_nil];omega
 cases decide (t.kind=31);case true=>simp only [cond_true,cond_false,Wd,List.map_cons,List.map_nil,List.sum_cons,List.sum_nil];omega
 cases decide (t.kind=32)
 case true =>
  have h1:=(X 1).ex ((x 0).ex S).2;simp only [cond_true,cond_false,Wd,List.map_cons,List.map_nil,List.sum_cons,List.sum_nil];omega
 simp only [cond_false];cases decide (t.kind=33);case true=>simp only [cond_true,Wd,List.map_cons,List.map_nil,List.sum_cons,List.sum_nil];omega
 cases decide (t.kind=37);case true=>simp only [cond_true,cond_false,Wd,List.map_cons,List.map_nil,List.sum_cons,List.sum_nil];omega
 cases decide (t.kind=35);case true=>simp only [cond_true,cond_false,Wd,List.map_cons,List.map_nil,List.sum_cons,List.sum_nil];omega
 cases decide (t.kind=36);case true=>simp only [cond_true,cond_false,Wd,List.map_cons,List.map_nil,List.sum_cons,List.sum_nil];omega
 simp only [cond_false,Wd,List.map_cons,List.map_nil,List.sum_cons,List.sum_nil];omega
theorem Zeh(X:∀ i,Cn (4*cN t i+1) (x i))(Xr:∀ i,i<t.kids.length→Cn (4*cN t i) (x i))(S:CSt):count (exR F t x S).1≤4*count t:=by
 have hp:=Uo t;have h3:=Xhe (t:=t);unfold exR;cases decide (t.kind=24);case true=>simp only [cond_true,Wd,List.map_nil,List.sum_nil];omega
 cases decide (t.kind=25);case true=>simp only [cond_true,cond_false,Wd,List.map_nil,List.sum_nil];omega
 cases decide (t.kind=26);case true=>simp only [cond_true,cond_false,Wd,List.map_nil,List.sum_nil];omega
 cases decide (t.kind=38)
 case true =>
  have h:=(X 0).blk (litS S);simp only [cond_true,cond_false,litR,Wd,List.map_cons,List.map_nil,List.sum_cons,List.sum_nil];omega
 cases decide (t.kind=30);case true=>exact Qtg X Xr S
 cases decide (t.kind=27);case true=>simp only [cond_true,cond_false,Xge];omega
 cases decide (t.kind=28);case true=>exact Zzf X S
 cases decide (t.kind=34);case true=>simp only [cond_true,cond_false,Wd,List.map_nil,List.sum_nil];omega
 exact cn_op X S
theorem Xeh(X:∀ i,Cn (4*cN t i+1) (x i))(S:CSt):count (rcvR F t x S).1≤4*count t:=by
 have hp:=Uo t;unfold rcvR;cases decide (t.kind=27);cases decide (t.kind=28);simp only [cond_false,Zqc];omega;exact Zzf X S;simp only [cond_true,Xge];omega
theorem Xfh(X:∀ i,Cn (4*cN t i+1) (x i))(Xr:∀ i,i<t.kids.length→Cn (4*cN t i) (x i))(S:CSt):count (calR F t x S).1.1≤4*count t:=by
 have hp:=Uo t;have h3:=Xhe (t:=t);have h1:=(X 0).mem S;have h2:=(X 0).rcv S;unfold calR;dsimp only;cases decide (t.kind=28)&&((x 0).rcv S).2;simp only [cond_false];cases decide (t.kind=27)&&((lookR F S t).2&&decide ((lookR F S t).1.ref=3));exact Zeh X Xr S;simp only [cond_true,Xge];omega;unfold rcvX;cases decide ((Zb t 0).kind=28);simp only [cond_true,cond_false,Wd,List.map_cons,List.map_nil,List.sum_cons,List.sum_nil];omega;simp only [cond_true,Wd,List.map_cons,List.map_nil,List.sum_cons,List.sum_nil];omega
theorem Wbg(Xr:∀ i,i<t.kids.length→Cn (4*cN t i) (x i))(S:CSt):∀ i,i≤t.kids.length→((stA x S i).1.map count).sum≤4*sC t i
 | 0,_=>Nat.zero_le _
 | i+1,hi=>by
  have ih:=Wbg Xr S i (by omega);have h:=(Xr i (by omega)).st (stA x S i).2;show (((stA x S i).1++[_]).map count).sum≤4*(sC t i+cN t i);rw [List.map_append,List.sum_append];simp only [List.map_cons,List.map_nil,List.sum_cons,List.sum_nil];omega
theorem Yaf(Xr:∀ i,i<t.kids.length→Cn (4*cN t i) (x i))(S:CSt):count (stsR t x S).1≤4*count t:=by
 have h:=Wbg Xr S t.kids.length (Nat.le_refl _);have hs:=Vza t t.kids.length;unfold stsR;rw [Wd];omega
theorem Xuf(X:∀ i,Cn (4*cN t i+1) (x i))(k:Nd)(S:CSt):count (condR k (x 0) S).1≤4*cN t 0+1:=by
 unfold condR;cases decide (k.kind=9);exact (X 0).ex S;simp only [cond_true,Web];omega
theorem Zfh(X:∀ i,Cn (4*cN t i+1) (x i))(S:CSt):count (ifR t x S).1≤4*count t:=by
 have h3:=Xhe (t:=t);have h0:=Xuf X (Zb t 0) S;have h1:=(X 1).blk (condR (Zb t 0) (x 0) S).2;have h2:=(X 2).blk ((x 1).blk (condR (Zb t 0) (x 0) S).2).2;have h2':=(X 2).ifs ((x 1).blk (condR (Zb t 0) (x 0) S).2).2;unfold ifR;dsimp only;cases decide ((Zb t 2).kind=10);cases decide ((Zb t 2).kind=18);simp only [cond_false,Wd,Web,List.map_cons,List.map_nil,List.sum_cons,List.sum_nil];omega;simp only [cond_true,cond_false,Wd,List.map_cons,List.map_nil,List.sum_cons,List.sum_nil];omega;simp only [cond_true,Wd,List.map_cons,List.map_nil,List.sum_cons,List.sum_nil];omega
theorem Xgh(X:∀ i,Cn (4*cN t i+1) (x i))(f:Bool)(S:CSt):count (casR t x f S).1≤4*count t:=by
 have h3:=Xhe (t:=t)
 have h0:count (bif decide ((Zb t 0).kind=9) then (clnT (Zb t 0),failU f t.pos 6 (openS S)) else (x 0).st (openS S)).1≤4*cN t 0+1:=by
  cases decide ((Zb t 0).kind=9);exact (X 0).st _;simp only [cond_true,Web];omega
 have h1:=(X 1).sts (bif decide ((Zb t 0).kind=9) then (clnT (Zb t 0),failU f t.pos 6 (openS S)) else (x 0).st (openS S)).2;unfold casR;dsimp only;simp only [Wd,List.map_cons,List.map_nil,List.sum_cons,List.sum_nil];omega
theorem Xvf(Xr:∀ i,i<t.kids.length→Cn (4*cN t i) (x i))(S:CSt):∀ i,i≤t.kids.length→((selA t x S i).1.map count).sum≤4*sC t i
 | 0,_=>Nat.zero_le _
 | i+1,hi=>by
  have ih:=Xvf Xr S i (by omega);have h:=(Xr i (by omega)).cas (selA t x S i).2.1 (selA t x S i).2.2;show (((selA t x S i).1++[_]).map count).sum≤4*(sC t i+cN t i);rw [List.map_append,List.sum_append];simp only [List.map_cons,List.map_nil,List.sum_cons,List.sum_nil];omega
theorem Wcg(t:Nd)(i:Nat):count (plainT (Zb t i))≤cN t i+1:=by
 rw [Xxa,Zb,cN,List.getD_eq_getElem?_getD,List.getD_eq_getElem?_getD,List.getElem?_map]
 cases t.kids[i]? with
 | none=>exact Nat.le_of_eq Zqc
 | some k=>exact Nat.le_succ _
theorem cn_st(X:∀ i,Cn (4*cN t i+1) (x i))(Xr:∀ i,i<t.kids.length→Cn (4*cN t i) (x i))(S:CSt):count (stR F t x S).1≤4*count t:=by
 have hp:=Uo t;have h3:=Xhe (t:=t);unfold stR;dsimp only;cases decide (t.kind=10);case true=>exact Yaf Xr (openS S)
 cases decide (t.kind=18);case true=>exact Zfh X S
 cases decide (t.kind=12)
 case true =>
  have h0:=(X 0).ex S;have h1:=fun S=>(X 1).ex S;simp only [cond_true,cond_false,asgR,Wd,List.map_cons,List.map_nil,List.sum_cons,List.sum_nil];have:=h1 (failU (((decide (((x 0).ex S).1.kind=27) && !decide (((x 0).ex S).1.ref=3)) || decide (((x 0).ex S).1.kind=28)) || decide (((x 0).ex S).1.kind=29)) (Zb t 0).pos 7 ((x 0).ex S).2);omega
 cases decide (t.kind=22)
 case true =>
  have h:=Xvf Xr S t.kids.length (Nat.le_refl _);have hs:=Vza t t.kids.length;simp only [cond_true,cond_false,selR,Wd];omega
 cases decide (t.kind=6)
 case true =>
  have hk:=Wcg t 0;simp only [cond_true,cond_false,varR,dclT,Wdb,List.map_cons,List.map_nil,List.sum_cons,List.sum_nil];cases decide ((Zb t 1).kind=9);have:=(X 1).ex (localS F (Zb t 0) S);simp only [cond_false];omega;simp only [cond_true,Web];omega
 cases decide (t.kind=11)
 case true =>
  have h0:=(X 0).ex S;simp only [cond_true,cond_false,defR,dclT,Wdb,List.map_cons,List.map_nil,List.sum_cons,List.sum_nil];omega
 cases decide (t.kind=19)
 case true =>
  have h0:=Xuf X (Zb t 0) S;have h1:=(X 1).blk (condR (Zb t 0) (x 0) S).2;simp only [cond_true,cond_false,forR,Wd,List.map_cons,List.map_nil,List.sum_cons,List.sum_nil];omega
 cases decide (t.kind=20)
 case true =>
  simp only [cond_true,cond_false];unfold retR;dsimp only;cases decide ((t.kids.length:Int)=1);simp only [cond_false,Wd,List.map_nil,List.sum_nil];omega;have h0:=(X 0).ex (failU (!Bool.xor true (!tyEqB S.result ty0)) t.pos 7 S);simp only [cond_true,Wd,List.map_cons,List.map_nil,List.sum_cons,List.sum_nil];omega
 have h0:=(X 0).ex S;simp only [cond_false,wantS];cases decide (t.kind=16)
 case true =>
  have h1:=(X 1).ex (failU (decide (((x 0).ex S).1.ty.kind=6)) (Zb t 0).pos 7 ((x 0).ex S).2);simp only [cond_true,Wd,List.map_cons,List.map_nil,List.sum_cons,List.sum_nil];omega
 cases decide (t.kind=17);case true=>simp only [cond_true,cond_false,Wd,List.map_cons,List.map_nil,List.sum_cons,List.sum_nil];omega
 cases decide (t.kind=21);case true=>simp only [cond_true,cond_false,Wd,List.map_cons,List.map_nil,List.sum_cons,List.sum_nil];omega
 simp only [cond_false,Wd,List.map_cons,List.map_nil,List.sum_cons,List.sum_nil];omega
theorem cn_f(X:∀ i,Cn (4*cN t i+1) (x i))(Xr:∀ i,i<t.kids.length→Cn (4*cN t i) (x i)):Cn (4*count t) (ckF F t x) :=
 ⟨Zeh X Xr,Zzf X,Xeh X,Xfh X Xr,cn_st X Xr,fun S=>Yaf Xr (openS S),Zfh X,Yaf Xr,Xgh X⟩
end
theorem Cn.mono{n m:Nat}{c:Ck}(h:Cn n c)(hm:n≤m):Cn m c :=
 ⟨fun S=>Nat.le_trans (h.ex S) hm,fun S=>Nat.le_trans (h.mem S) hm,fun S=>Nat.le_trans (h.rcv S) hm,fun S=>Nat.le_trans (h.cal S) hm,fun S=>Nat.le_trans (h.st S) hm,fun S=>Nat.le_trans (h.blk S) hm,fun S=>Nat.le_trans (h.ifs S) hm,fun S=>Nat.le_trans (h.sts S) hm,fun f S=>Nat.le_trans (h.cas f S) hm⟩
theorem cn_0:Cn 1 ck0:=by
 have h:count nd0≤1:=Nat.le_of_eq Zqc;exact ⟨fun _=>h,fun _=>h,fun _=>h,fun _=>h,fun _=>h,fun _=>h,fun _=>h,fun _=>h,fun _ _=>h⟩
theorem cn_t(F:Nd):∀ t,Cn (4*count t) (ckT F t):=by
 refine Nd.ind fun t ih=>?_;rw [Yxa]
 have hr:∀ i,i<t.kids.length→Cn (4*cN t i) (ckX F t i):=fun i h=>by
  rw [Vv h,Wc h];have:=ih _ (List.getElem_mem h);have e:cN t i=count t.kids[i]:=by simp [cN,List.getD_eq_getElem?_getD,List.getElem?_eq_getElem h]
  rw [e];exact this
 refine cn_f (fun i=>?_) hr;by_cases h:i<t.kids.length;exact (hr i h).mono (Nat.le_succ _);rw [ckX];simp only [List.getD_eq_getElem?_getD,List.getElem?_map];rw [List.getElem?_eq_none (by omega)];exact cn_0.mono (by omega)
theorem Ybf(t:Nd)(i:Nat):count (Zb t i)≤cN t i+1:=by
 have:=Wcg t i;rwa [Xxa] at this
theorem Wdg(F p:Nd)(S:CSt):∀ i,i≤p.kids.length→((parA F p S i).1.map count).sum≤sC p i
 | 0,_=>Nat.le_refl _
 | i+1,hi=>by
  have ih:=Wdg F p S i (by omega)
  have e:count (.mk (Zb p i).kind (Zb p i).text (declN (parA F p S i).2) (Zb p i).pos ((Zb p i).kids.map plainT) ty0 1 0)=count (Zb p i):=by
   rw [Wdb,Uw (Zb p i),List.map_map];congr 2;exact List.map_congr_left fun k _=>Xxa k
  rw [parA,List.map_append,List.sum_append,sC,Ucc (by omega)];simp only [List.map_cons,List.map_nil,List.sum_cons,List.sum_nil,e];omega
theorem Xhh(F n:Nd)(S:CSt):count (dclR F n S).1≤8*count n:=by
 have hp:=Uo n;unfold dclR;cases decide (n.kind=2);case true=>simp only [cond_true,Xxa];omega
 cases decide (n.kind=6);case true=>simp only [cond_true,cond_false,Xxa];omega
 cases decide (n.kind=4);simp only [cond_false,Xxa];omega;have h3:=Xhe (t:=n);have k0:=Ybf n 0;have k1:=Ybf n 1;have k2:=Ybf n 2;have h1:=Wdg F (Zb n 0) (funS0 S) _ (Nat.le_refl _);have h2:=Vza (Zb n 0) (Zb n 0).kids.length;have hb:=(cn_t F (Zb n 2)).sts (funS2 F n S);simp only [cond_true,cond_false,funR,Wd,Xxa,List.map_cons,List.map_nil,List.sum_cons,List.sum_nil];omega
theorem Xwf(F:Nd)(S:CSt):∀ i,i≤F.kids.length→((dclA F S i).1.map count).sum≤8*sC F i
 | 0,_=>Nat.zero_le _
 | i+1,hi=>by
  have ih:=Xwf F S i (by omega);have h:=Xhh F (Zb F i) (dclA F S i).2;rw [dclA,List.map_append,List.sum_append,sC,Ucc (by omega)];simp only [List.map_cons,List.map_nil,List.sum_cons,List.sum_nil];omega
theorem Ycf(F:Nd):count (refCheck F).1≤8*count F:=by
 have hp:=Uo F;have h0:=Zqc;unfold refCheck;cases validB F;simp only [cond_false];omega;cases decide ((refS F).ee=0);simp only [cond_true,cond_false];omega;have h1:=Xwf F (namA F rs0 F.kids.length) F.kids.length (Nat.le_refl _);have h2:=Vza F F.kids.length;simp only [cond_true,refA,Wd];omega
theorem Qug:∀ (t:Nd) (C:List (List Dc)) (v:Int),(∀ k∈t.kids,Us C k)→∀ x∈visN t v,dclD x.1≠[]→0<x.1.kids.length:=by
 refine Nd.ind fun t ih C v h x hx=>?_;rw [Xma] at hx;obtain ⟨k,hk,hx⟩:=List.mem_flatMap.1 hx
 cases h k hk with
 | mk h1 h2 h0 h3 h4 =>
  rcases List.mem_cons.1 hx with e|hx;subst e;exact h0;exact ih k hk _ _ (fun y hy=>h4 y hy) x hx
theorem Xih:∀ (t:Nd) (C:List (List Dc)) (v:Int),(∀ k∈t.kids,Us C k)→∀ x∈visN t v,useB x.1=true→
 ∃ n m e:Nat,x.1.up=n∧x.1.num=m∧x.2=v+e∧n<C.length+e∧∀ j:Nat,n=j+e→∃ l d,C[C.length-1-j]? = some l∧l[m]? = some d∧d.name=x.1.text∧d.typ=x.1.ty:=by
 refine Nd.ind fun t ih C v h x hx hu=>?_;rw [Xma] at hx;obtain ⟨k,hk,hx⟩:=List.mem_flatMap.1 hx
 cases h k hk with
 | mk h1 h2 h0 h3 h4 =>
  rcases List.mem_cons.1 hx with e|hx;subst e;obtain ⟨n,m,l,d,q1,q2,q3,q4,q5,q6,q7⟩:=h1 hu;exact ⟨n,m,0,q1,q2,by simp,by omega,fun j hj=>⟨l,d,by rw [show j=n by omega];exact q4,q5,q6,q7⟩⟩;obtain ⟨n,m,e,q1,q2,q3,q4,q5⟩:=ih k hk _ _ (fun y hy=>h4 y hy) x hx hu;cases hk38:decide (k.kind=38);rw [hk38,cond_false] at q4 q5;unfold upL at q3;rw [hk38,cond_false] at q3;exact ⟨n,m,e,q1,q2,q3,q4,q5⟩;rw [hk38,cond_true] at q4 q5;unfold upL at q3;rw [hk38,cond_true] at q3;rw [List.length_append,List.length_singleton] at q4;refine ⟨n,m,e+1,q1,q2,by rw [q3];omega,by omega,fun j hj=>?_⟩;obtain ⟨l,d,r1,r2⟩:=q5 (j+1) (by omega);refine ⟨l,d,?_,r2⟩;rw [List.length_append,List.length_singleton] at r1;have hj2:C.length+1-1-(j+1)=C.length-1-j:=by omega
  rw [hj2,List.getElem?_append_left (by omega)] at r1;exact r1
structure FnT (t:Nd):Prop where
  fn:fnB t=true
  ct:count t≤1000000
  kid:∀ x∈visN t 0,dclD x.1≠[]→0<x.1.kids.length
  par:∃ a b,locL t=a++b∧(∀ d∈a,d.par=true)∧∀ d∈b,d.par=false
  use:∀ x∈visN t 0,useB x.1=true→∃ n m e:Nat,x.1.up=n∧x.1.num=m∧x.2=e∧n≤1000000+e∧(t.kind=4→n≤e)∧(n=e→∃ d,(locL t)[m]? = some d∧d.name=x.1.text∧d.typ=x.1.ty)
theorem Vkd{t fn:Nd}(h:fn∈fnsT t):FnT fn:=by
 unfold fnsT at h;cases h1:decide ((250:Int)<(count t:Nat));case true=>rw [h1] at h;cases h
 rw [h1,cond_false] at h;have h1:=of_decide_eq_false h1;cases h2:decide ((refCheck t).2.2=0);case false=>rw [h2] at h;cases h
 rw [h2,cond_true] at h;have h2:=of_decide_eq_true h2
 have hv:validB t=true:=by
  cases hv:validB t;unfold refCheck at h2;rw [hv] at h2;exact absurd h2 (show ¬ (1:Int)=0 by decide);rfl
 have hc:=Ycf t
 have e:(refCheck t).1=refA t:=by
  unfold refCheck at h2 ⊢;rw [hv,cond_true] at h2 ⊢;cases he:decide ((refS t).ee=0);rw [he,cond_false] at h2;exact absurd h2 (of_decide_eq_false he);rfl
 rw [e] at h hc;obtain ⟨hm,hf⟩:=List.mem_filter.1 h
 have hk:fn.kind=4∨fn.kind=38:=by
  have:(decide (fn.kind=4) || decide (fn.kind=38))=true:=hf;simpa using this
 obtain ⟨C,hC,hl,hu,hpar⟩:=Qsg hv hm hk;have hcf:=Vdf _ _ hm;refine ⟨hf,by omega,Qug fn _ 0 hu,hpar,fun x hx hux=>?_⟩;obtain ⟨n,m,e,q1,q2,q3,q4,q5⟩:=Xih fn _ 0 hu x hx hux;rw [List.length_append,List.length_singleton] at q4;refine ⟨n,m,e,q1,q2,by rw [q3];omega,by omega,fun h4=>?_,fun hne=>?_⟩;rw [hC h4] at q4;simp at q4;omega;obtain ⟨l,d,r1,r2⟩:=q5 0 (by omega);rw [List.length_append,List.length_singleton,List.getElem?_append_right (by omega)] at r1;have:C.length+1-1-0-C.length=0:=by omega
 rw [this] at r1;injection r1 with r1;subst r1;exact ⟨d,r2⟩
theorem Wkc(c:Int)(w:World):Ret PP Yvc #[.int .u8 c] w fun v w'=>v = .bool (letterB c)∧G w w':=by
 have g:=G.refl w;refine WK 21 [0] Vub ?_;refine RTN ?_;exact ⟨rfl,g⟩
theorem Wfb(c:Int)(w:World):Ret PP Vcc #[.int .u8 c] w fun v w'=>v = .bool (digitB c)∧G w w':=by
 have g:=G.refl w;refine WK 9 [0] Qsb ?_;refine RTN ?_;exact ⟨rfl,g⟩
def intOk(l:List UInt8):Bool:=(decide (l.length≤19) && !(decide ((1:Int)<l.length)&&decide (cAt l 0=48)))&&decide ((valN 0 l:Int)<9223372036854775808)
theorem Uqf(a:Nat)(l:List UInt8)(c:UInt8):valN a (l++[c])=valN a l*10+(c.toNat-48):=by simp [valN]
theorem Ydf(l:List UInt8)(h:allD l):valN 0 l<10 ^ l.length:=by
 have key:∀ (l:List UInt8),allD l→∀ a,valN a l<(a+1)*10 ^ l.length:=by
  intro l
  induction l with
  | nil=>intro _ a;show a<(a+1)*1;omega
  | cons c l ih =>
   intro h a;have hc:=h c (List.mem_cons_self ..);have:=ih (fun x hx=>h x (List.mem_cons_of_mem _ hx)) (a*10+(c.toNat-48));rw [Xrb,List.length_cons,Nat.pow_succ];refine Nat.lt_of_lt_of_le this ?_;rw [show (a+1)*(10 ^ l.length*10)=((a+1)*10)*10 ^ l.length by rw [Nat.mul_assoc,Nat.mul_comm 10]];exact Nat.mul_le_mul_right _ (by omega)
 simpa using key l h 0
theorem Jqd{l:List UInt8}{i:Nat}(h:i<l.length)(hd:allD l):(valN 0 (l.take (i+1)):Int)=10*(valN 0 (l.take i):Int)+(cAt l i-48)∧valN 0 (l.take i)<10 ^ i∧48≤cAt l i∧cAt l i≤57:=by
 have hm:l[i]∈l:=List.getElem_mem h;have hc:=hd _ hm;have ec:cAt l i=(l[i].toNat:Int):=by simp [cAt,List.getD_eq_getElem?_getD,List.getElem?_eq_getElem h]
 have hb:=Ydf (l.take i) (fun c hc=>hd c (List.mem_of_mem_take hc));rw [List.length_take,Nat.min_eq_left (by omega)] at hb;refine ⟨?_,hb,by omega,by omega⟩;rw [List.take_succ_eq_append_getElem h,Uqf,ec];omega
theorem Yef(l:List UInt8)(hd:allD l)(hne:l≠[])(hl:l.length≤20000)(w:World):Ret PP Qtb #[Str l] w fun v w'=>(∃ x,v = .tuple #[.int .i64 x,.bool (intOk l)])∧G w w':=by
 have g:=G.refl w;refine WK 46 [0] Xbb ?_;refine AU ?_;refine Zj O O O (fun _=>Jq Yv (Zm O id) Xg (fun hc=>by have:=of_decide_eq_true hc.2;omega)) ?_;refine IF (fun h1=>?_) fun h1=>?_
 ·have hN:intOk l=false:=by
   rw [intOk];rw [Wdh hne,Bool.false_or] at h1;by_cases h19:l.length≤19
   ·rw [Wdh (by omega:¬ (19:Int)<l.length),Bool.false_or] at h1
    replace h1:(decide ((1:Int)<l.length)&&decide (cAt l 0=48))=true:=h1;rw [h1];simp
   · rw [Wdh h19];rfl
  refine RTN ?_;exact ⟨⟨0,by rw [hN]⟩,g⟩
 have h19:l.length≤19:=by
  cases h0:decide ((19:Int)<l.length)
  · have:=of_decide_eq_false h0;omega
  · rw [h0] at h1;simp at h1
 have hN:intOk l=decide ((valN 0 l:Int)<9223372036854775808):=by
  rw [intOk];rw [Wdh hne,Wdh (by omega:¬ (19:Int)<l.length),Bool.false_or,Bool.false_or] at h1;replace h1:(decide ((1:Int)<l.length)&&decide (cAt l 0=48))=false:=h1;rw [h1,Weh h19,Bool.not_false,Bool.and_true,Bool.true_and]
 have h10:(10:Nat) ^ 19=10000000000000000000:=by decide
 refine AU ?_;refine Wta (fun (i:Nat) u=>i≤l.length∧G w u) (fun i=>[(0,True,Str l),(4,True,.int .u64 (valN 0 (l.take i):Nat)),(5,True,.int .i64 i)]) (fun i=>l.length-i) 0 ⟨by omega,g⟩ (Za O (Za O (Za O (Zo _)))) ?_;rintro i u ⟨hi,g⟩;refine IF (fun h2=>?_) fun h2=>?_
 ·replace h2:i<l.length:=by simp only [decide_eq_true_eq] at h2;omega
  obtain ⟨e,hb,hc1,hc2⟩:=Jqd h2 hd;have hb2:valN 0 (l.take i)<10 ^ 18:=Nat.lt_of_lt_of_le hb (Nat.pow_le_pow_right (by decide) (by omega));have h18:(10:Nat) ^ 18=1000000000000000000:=by decide
  rw [h18] at hb2;refine AU ?_;refine CP (Wfb _ _) (fun w32 g32=>?_);have g:=g.trans g32;refine IF (fun h3=>?_) fun h3=>?_
  ·exfalso
   replace h3:(!digitB (cAt l i))=true:=h3;rw [digitB,Weh hc1,Weh hc2] at h3;cases h3;done
  skip;refine Yb (kq (Wf [3,3,3,3,3,3,3,3,3] (Zp O (Zq O (fun _=>Ynf (r:=10*((valN 0 (l.take i):Nat):Int)) Xg (Zd O) (fun hc=>Urc ⟨by omega,by omega⟩)) (Zp O (Zp O (Zq O (fun _=>Jq Yv (Zd O) (Zd O) (fun _=>by omega)) (Zq O (fun _=>Ycd (r:=cAt l i-48) (Zd O) Xg (fun hc=>Jvg ⟨by show 0≤cAt l i-48;omega,by show cAt l i-48≤255;omega⟩)) (Zq O (fun _=>Xue (r:=cAt l i-48) Wte Zdc (Zd O) (fun hc=>Urc ⟨by omega,by omega⟩)) (Zq O (fun _=>Ymf (r:=((valN 0 (l.take (i+1)):Nat):Int)) (Zd O) (Zd O) (fun hc=>(by rw [e];exact Urc ⟨by omega,by omega⟩))) (Yr O (Ze (kq (Zk (Zp O (Jta O O (by omega) (Yr O (?_))))))))))))))))));refine Vf [(0,_,_),(4,_,_),(5,_,_)] (Za O (Za O (Za O (Zo _)))) (Ze (fun a ha=>?_));exact ⟨i+1,ha,⟨h2,g⟩,by omega⟩
 have hi:i=l.length:=by simp only [decide_eq_false_iff_not] at h2;omega
 subst hi;refine Jl O (kq (Zi (Wf [3,3,3,3,3,3] (Zp O (Zq O (fun _=>Jud Zdc Qnf (Zd O)) (Zp O (Xna O O (Yr O (Yr O (Ze (kq (Xe (Wkb (ts:=[2,3]) (vs:=[_,_]) O O O ?_)))))))))))));refine ⟨⟨IntKind.i64.wrap ((valN 0 (l.take l.length):Nat):Int),?_⟩,g⟩;rw [hN];have e:l.take l.length=l:=List.take_length;rw [e]
structure PSt where
  ix:Nat
  bad:Bool
def tkn(l:List Tok)(i:Nat):Tok:=l.getD i ⟨0,[],0⟩
def mkN(k:Int)(x:List UInt8)(n a:Int)(ks:List Nd):Nd:=.mk k x n a ks ty0 0 0
def nonN:Nd:=mkN 9 [] 0 0 []
def failQ(S:PSt):PSt:=⟨S.ix,true⟩
def adv(S:PSt):PSt:=⟨S.ix+1,S.bad⟩
def levelQ(s:List UInt8):Nat :=
 bif decide (s=[124,124]) then 1
 else bif decide (s=[38,38]) then 2
 else bif inB [[61,61],[33,61],[60],[60,61],[62],[62,61]] s then 3
 else bif inB [[43],[45]] s then 4
 else bif inB [[42],[47],[37]] s then 5
 else 0
def intQ(s:List UInt8):Int:=bif decide (s.length≤19) && !(decide ((1:Int)<s.length)&&decide (cAt s 0=48)) then IntKind.i64.wrap (valN 0 s:Nat) else 0
section
variable (l:List Tok) (sz:Int)
def peekQ(S:PSt)(k:Nat):List UInt8 :=
 bif (S.bad || decide ((l.length:Int)≤(S.ix:Int)+(k:Int))) || (!decide ((tkn l (S.ix+k)).kind=3) && !decide ((tkn l (S.ix+k)).kind=4)) then [] else (tkn l (S.ix+k)).text
def isQ(S:PSt)(s:List UInt8):Bool:=decide (peekQ l S 0=s)
def offQ(S:PSt):Int:=bif decide ((S.ix:Int)<l.length) then (tkn l S.ix).pos else sz
def isK(S:PSt)(kd:Int)(k:Nat):Bool:=(!S.bad&&decide ((S.ix:Int)+(k:Int)<l.length))&&decide ((tkn l (S.ix+k)).kind=kd)
def takeQ(s:List UInt8)(S:PSt):PSt:=bif isQ l S s then adv S else failQ S
def nameQ(S:PSt):List UInt8×PSt:=bif isK l S 1 0 then ((tkn l S.ix).text,adv S) else ([],failQ S)
def semiQ(S:PSt):PSt:=bif isQ l S [125] || decide ((l.length:Int)≤S.ix) then S else takeQ l [59] S
def endQ(S:PSt):PSt:=bif decide ((l.length:Int)≤(semiQ l S).ix) then failQ (semiQ l S) else semiQ l S
def typQ(S:PSt):Nd×PSt :=
 bif inB [[105,110,116],[98,111,111,108],[109,117,116,101,120],[114,119,109,117,116,101,120],[103,114,111,117,112],[111,110,99,101],[97,116,111,109,105,99]] (peekQ l S 0) then (mkN 7 (peekQ l S 0) 0 (offQ l sz S) [],adv S)
 else bif isQ l S [42] then (mkN 8 (nameQ l (adv S)).1 0 (offQ l sz S) [],(nameQ l (adv S)).2)
 else bif isQ l S [91] then (mkN 7 [91,93,105,110,116] 0 (offQ l sz S) [],takeQ l [105,110,116] (takeQ l [93] (adv S)))
 else bif isQ l S [99,104,97,110] then (mkN 7 [99,104,97,110] 0 (offQ l sz S) [],takeQ l [105,110,116] (adv S))
 else bif isQ l S [102,117,110,99] then (mkN 7 [102,117,110,99] 0 (offQ l sz S) [],takeQ l [41] (takeQ l [40] (adv S)))
 else (mkN 7 [] 0 (offQ l sz S) [],failQ S)
def fieldQ(S:PSt):Nd×PSt :=
 let a:=nameQ l S
 let t:=typQ l sz a.2
 (mkN 3 a.1 0 (offQ l sz S) [t.1],t.2)
def fldL:Nat→List Nd→PSt→List Nd×PSt
 | 0,acc,S=>(acc,S)
 | f+1,acc,S=>bif isQ l S [44] then fldL f (acc++[(fieldQ l sz (adv S)).1]) (fieldQ l sz (adv S)).2 else (acc,S)
def paramsQ(S:PSt):Nd×PSt :=
 let S1:=takeQ l [40] S
 bif isQ l S1 [41] then (mkN 5 [] 0 (offQ l sz S) [],adv S1)
 else
  let a:=fieldQ l sz S1
  let r:=fldL l sz (l.length+1) [a.1] a.2
  (mkN 5 [] 0 (offQ l sz S) r.1,takeQ l [41] r.2)
def strL:Nat→List Nd→PSt→List Nd×PSt
 | 0,acc,S=>(acc,S)
 | f+1,acc,S=>bif !S.bad && !isQ l S [125] then strL f (acc++[(fieldQ l sz S).1]) (endQ l (fieldQ l sz S).2) else (acc,S)
structure Pz where
  sts:Bool→PSt→List Nd×PSt
  blk:PSt→Nd×PSt
  ifs:PSt→Nd×PSt
  rcv:PSt→Nd×PSt
  sim:Bool→PSt→Nd×PSt
  sel:PSt→Nd×PSt
  st:PSt→Nd×PSt
  ex:Nat→PSt→Nd×PSt
  un:PSt→Nd×PSt
  pri:PSt→Nd×PSt
  opd:PSt→Nd×PSt
def pz0:Pz:=⟨fun _ S=>([],S),fun S=>(nd0,failQ S),fun S=>(nd0,failQ S),fun S=>(nd0,failQ S),fun _ S=>(nd0,failQ S),fun S=>(nd0,failQ S),fun S=>(nd0,failQ S),fun _ S=>(nd0,failQ S),fun S=>(nd0,failQ S),fun S=>(nd0,failQ S),fun S=>(nd0,failQ S)⟩
variable (x:Pz)
def stsC(c:Bool)(S:PSt):Bool:=(!S.bad && !isQ l S [125]) && !(c&&(isQ l S [99,97,115,101] || isQ l S [100,101,102,97,117,108,116]))
def stsL(c:Bool):Nat→List Nd→PSt→List Nd×PSt
 | 0,acc,S=>(acc,S)
 | f+1,acc,S=>bif stsC l c S then stsL c f (acc++[(x.st S).1]) (endQ l (x.st S).2) else (acc,S)
def stsQ(c:Bool)(S:PSt):List Nd×PSt:=stsL l x c (l.length+2) [] S
def blkQ(S:PSt):Nd×PSt :=
 let a:=x.sts false (takeQ l [123] S)
 (mkN 10 [] 0 (offQ l sz S) a.1,takeQ l [125] a.2)
def ifsQ(S:PSt):Nd×PSt :=
 let c:=x.ex 1 (takeQ l [105,102] S)
 let b:=x.blk c.2
 let e:=bif isQ l b.2 [101,108,115,101] then (bif isQ l (adv b.2) [105,102] then x.ifs (adv b.2) else x.blk (adv b.2)) else (nonN,b.2)
 (mkN 18 [] 0 (offQ l sz S) [c.1,b.1,e.1],e.2)
def rcvQ(S:PSt):Nd×PSt:=bif isQ l S [60,45] then x.un S else (nd0,failQ S)
def simQ(comm:Bool)(S:PSt):Nd×PSt :=
 bif isK l S 1 0&&decide (peekQ l S 1=[58,61]) then
  let v:=bif comm then x.rcv (adv (nameQ l S).2) else x.ex 1 (adv (nameQ l S).2)
  (mkN 11 (nameQ l S).1 0 (offQ l sz S) [v.1],v.2)
 else
  let a:=x.ex 1 S
  bif isQ l a.2 [61] then
   let b:=bif comm then x.rcv (adv a.2) else x.ex 1 (adv a.2)
   (mkN 12 [] 0 (offQ l sz a.2) [a.1,b.1],b.2)
  else bif isQ l a.2 [60,45] then
   let b:=x.ex 1 (adv a.2)
   (mkN 16 [] 0 (offQ l sz a.2) [a.1,b.1],b.2)
  else (mkN 13 [] 0 (offQ l sz S) [a.1],bif !decide (a.1.kind=33)&&(comm || !decide (a.1.kind=30)) then failQ a.2 else a.2)
def casQ(S:PSt):Nd×PSt:=bif isQ l S [100,101,102,97,117,108,116] then (nonN,adv S) else x.sim true (takeQ l [99,97,115,101] S)
def selL:Nat→List Nd→PSt→List Nd×PSt
 | 0,acc,S=>(acc,S)
 | f+1,acc,S =>
  bif !S.bad && !isQ l S [125] then
   let a:=casQ l x S
   let b:=x.sts true (takeQ l [58] a.2)
   selL f (acc++[mkN 23 [] 0 (offQ l sz S) [a.1,mkN 10 [] 0 (offQ l sz a.2) b.1]]) b.2
  else (acc,S)
def selQ(S:PSt):Nd×PSt :=
 let r:=selL l sz x (l.length+1) [] (takeQ l [123] (takeQ l [115,101,108,101,99,116] S))
 (mkN 22 [] 0 (offQ l sz S) r.1,takeQ l [125] r.2)
def varQ(S:PSt):Nd×PSt :=
 let a:=nameQ l (adv S)
 let t:=typQ l sz a.2
 let e:=bif isQ l t.2 [61] then x.ex 1 (adv t.2) else (nonN,t.2)
 (mkN 6 a.1 0 (offQ l sz S) [t.1,e.1],e.2)
def stQ(S:PSt):Nd×PSt :=
 bif isQ l S [118,97,114] then varQ l sz x S
 else bif isQ l S [103,111] || isQ l S [100,101,102,101,114] then
  let c:=x.pri (adv S)
  (mkN (bif isQ l S [100,101,102,101,114] then 15 else 14) [] 0 (offQ l sz S) [c.1],bif !decide (c.1.kind=30) then failQ c.2 else c.2)
 else bif isQ l S [99,108,111,115,101] || isQ l S [112,114,105,110,116] then
  let c:=x.ex 1 (takeQ l [40] (adv S))
  (mkN (bif isQ l S [112,114,105,110,116] then 21 else 17) [] 0 (offQ l sz S) [c.1],takeQ l [41] c.2)
 else bif isQ l S [105,102] then x.ifs S
 else bif isQ l S [102,111,114] then
  let c:=bif isQ l (adv S) [123] then (nonN,adv S) else x.ex 1 (adv S)
  let b:=x.blk c.2
  (mkN 19 [] 0 (offQ l sz S) [c.1,b.1],b.2)
 else bif isQ l S [114,101,116,117,114,110] then
  bif (!isQ l (adv S) [59] && !isQ l (adv S) [125])&&decide (((adv S).ix:Int)<l.length) then (mkN 20 [] 0 (offQ l sz S) [(x.ex 1 (adv S)).1],(x.ex 1 (adv S)).2)
  else (mkN 20 [] 0 (offQ l sz S) [],adv S)
 else bif isQ l S [115,101,108,101,99,116] then x.sel S
 else bif isQ l S [123] then x.blk S
 else x.sim false S
def exE(least:Nat)(S:PSt):Bool:=decide ((levelQ (peekQ l S 0):Int)=0) || decide ((levelQ (peekQ l S 0):Int)<least)
def exL(least:Nat):Nat→Nd→PSt→Nd×PSt
 | 0,a,S=>(a,S)
 | f+1,a,S =>
  bif !S.bad then
   bif exE l least S then (a,S)
   else
    let b:=x.ex (levelQ (peekQ l S 0)+1) (adv S)
    exL least f (mkN 32 (peekQ l S 0) 0 (offQ l sz S) [a,b.1]) b.2
  else (a,S)
def exQ(least:Nat)(S:PSt):Nd×PSt:=exL l sz x least (l.length+2) (x.un S).1 (x.un S).2
def unQ(S:PSt):Nd×PSt :=
 bif isQ l S [45] || isQ l S [33] then (mkN 31 (peekQ l S 0) 0 (offQ l sz S) [(x.un (adv S)).1],(x.un (adv S)).2)
 else bif isQ l S [60,45] then (mkN 33 [] 0 (offQ l sz S) [(x.un (adv S)).1],(x.un (adv S)).2)
 else x.pri S
def argL:Nat→List Nd→PSt→List Nd×PSt
 | 0,acc,S=>(acc,S)
 | f+1,acc,S=>bif isQ l S [44] then argL f (acc++[(x.ex 1 (adv S)).1]) (x.ex 1 (adv S)).2 else (acc,S)
def argQ(a:Nd)(S:PSt):List Nd×PSt :=
 bif isQ l S [41] then ([a],S)
 else argL l x (l.length+1) [a,(x.ex 1 S).1] (x.ex 1 S).2
def priL:Nat→Nd→PSt→Nd×PSt
 | 0,a,S=>(a,S)
 | f+1,a,S =>
  bif !S.bad then
   bif isQ l S [46] then priL f (mkN 28 (nameQ l (adv S)).1 0 (offQ l sz S) [a]) (nameQ l (adv S)).2
   else bif isQ l S [91] then priL f (mkN 29 [] 0 (offQ l sz S) [a,(x.ex 1 (adv S)).1]) (takeQ l [93] (x.ex 1 (adv S)).2)
   else bif isQ l S [40] then priL f (mkN 30 [] 0 (offQ l sz S) (argQ l x a (adv S)).1) (takeQ l [41] (argQ l x a (adv S)).2)
   else (a,S)
  else (a,S)
def priQ(S:PSt):Nd×PSt:=priL l sz x (l.length+2) (x.opd S).1 (x.opd S).2
def mkeQ(S:PSt):PSt:=takeQ l [44] (takeQ l [105,110,116] (bif isQ l S [99,104,97,110] then adv S else takeQ l [93] (takeQ l [91] S)))
def opdQ(S:PSt):Nd×PSt :=
 bif isK l S 1 0 then (mkN 27 (nameQ l S).1 0 (offQ l sz S) [],(nameQ l S).2)
 else bif isK l S 2 0 then (mkN 24 [] (intQ (tkn l S.ix).text) (offQ l sz S) [],adv S)
 else bif isQ l S [116,114,117,101] || isQ l S [102,97,108,115,101] then (mkN 25 [] (bif isQ l S [116,114,117,101] then 1 else 0) (offQ l sz S) [],adv S)
 else bif isQ l S [110,105,108] then (mkN 26 [] 0 (offQ l sz S) [],adv S)
 else bif isQ l S [40] then ((x.ex 1 (adv S)).1,takeQ l [41] (x.ex 1 (adv S)).2)
 else bif isQ l S [110,101,119] then (mkN 34 (nameQ l (takeQ l [40] (adv S))).1 0 (offQ l sz S) [],takeQ l [41] (nameQ l (takeQ l [40] (adv S))).2)
 else bif isQ l S [108,101,110] then (mkN 37 [] 0 (offQ l sz S) [(x.ex 1 (takeQ l [40] (adv S))).1],takeQ l [41] (x.ex 1 (takeQ l [40] (adv S))).2)
 else bif isQ l S [109,97,107,101] then
  let e:=x.ex 1 (mkeQ l (takeQ l [40] (adv S)))
  (mkN (bif isQ l (takeQ l [40] (adv S)) [99,104,97,110] then 36 else 35) [] 0 (offQ l sz S) [e.1],takeQ l [41] e.2)
 else bif isQ l S [102,117,110,99] then
  let b:=x.blk (takeQ l [41] (takeQ l [40] (adv S)))
  (mkN 38 [] 0 (offQ l sz S) [b.1],b.2)
 else (mkN 0 [] 0 (offQ l sz S) [],failQ S)
def pzF:Pz:=⟨stsQ l x,blkQ l sz x,ifsQ l sz x,rcvQ l x,simQ l sz x,selQ l sz x,stQ l sz x,exQ l sz x,unQ l sz x,priQ l sz x,opdQ l sz x⟩
def pzN:Nat→Pz
 | 0=>pz0
 | n+1=>pzF l sz (pzN n)
def funQ(S:PSt):Nd×PSt :=
 let a:=nameQ l (adv S)
 let p:=paramsQ l sz a.2
 let t:=bif isQ l p.2 [123] then (nonN,p.2) else typQ l sz p.2
 let b:=x.blk t.2
 (mkN 4 a.1 0 (offQ l sz S) [p.1,t.1,b.1],b.2)
def strQ(S:PSt):Nd×PSt :=
 let a:=nameQ l (adv S)
 let r:=strL l sz (l.length+2) [] (takeQ l [123] (takeQ l [115,116,114,117,99,116] a.2))
 (mkN 2 a.1 0 (offQ l sz S) r.1,takeQ l [125] r.2)
def declQ(S:PSt):Nd×PSt :=
 bif isQ l S [116,121,112,101] then strQ l sz S
 else bif isQ l S [118,97,114] then
  let a:=nameQ l (adv S)
  let t:=typQ l sz a.2
  (mkN 6 a.1 0 (offQ l sz S) [t.1,nonN],t.2)
 else bif isQ l S [102,117,110,99] then funQ l sz x S
 else (mkN 0 [] 0 (offQ l sz S) [],failQ S)
def prsL:Nat→List Nd→PSt→List Nd×PSt
 | 0,acc,S=>(acc,S)
 | f+1,acc,S =>
  bif !S.bad&&decide ((S.ix:Int)<l.length) then
   let d:=declQ l sz x S
   prsL f (acc++[d.1]) (bif decide ((d.2.ix:Int)<l.length) then takeQ l [59] d.2 else d.2)
  else (acc,S)
def prsT:List Nd×PSt:=prsL l sz (pzN l sz (8*l.length+20)) (l.length+1) [] ⟨0,false⟩
end
def fileN(ks:List Nd):Nd:=mkN 1 [] 0 0 ks
def parseF(s:List UInt8):Nd×Int×Int :=
 bif !decide ((scanF s).2.2=0) then (nd0,(scanF s).2.1,(scanF s).2.2)
 else
  let r:=prsT (scanF s).1 s.length
  bif r.2.bad then (nd0,offQ (scanF s).1 s.length r.2,4)
  else bif decide ((50:Int)<(depthN (fileN r.1):Nat)) then (nd0,0,3)
  else (fileN r.1,0,0)
def remQ(l:List Tok)(S:PSt):Nat:=bif S.bad then 0 else l.length-S.ix+1
def PLe(l:List Tok)(S T:PSt):Prop:=S.ix≤l.length→T.ix≤l.length∧remQ l T≤remQ l S
def PLt(l:List Tok)(S T:PSt):Prop:=S.ix≤l.length→T.ix≤l.length∧remQ l T≤remQ l S∧(S.bad=false→remQ l T<remQ l S)
section
variable {l:List Tok} {sz:Int} {S T U:PSt}
theorem Umc(h:S.bad=true):remQ l S=0:=by rw [remQ,h];rfl
theorem Vrb(h:S.bad=false):remQ l S=l.length-S.ix+1:=by rw [remQ,h];rfl
theorem PLe.refl(S:PSt):PLe l S S:=fun h=>⟨h,Nat.le_refl _⟩
theorem PLe.trans(h:PLe l S T)(k:PLe l T U):PLe l S U:=fun hS=>by
 obtain ⟨a,b⟩:=h hS;obtain ⟨c,d⟩:=k a;exact ⟨c,Nat.le_trans d b⟩
theorem PLt.le(h:PLt l S T):PLe l S T:=fun hS=>⟨(h hS).1,(h hS).2.1⟩
theorem PLt.tle(h:PLt l S T)(k:PLe l T U):PLt l S U:=fun hS=>by
 obtain ⟨a,b,c⟩:=h hS;obtain ⟨d,e⟩:=k a;exact ⟨d,Nat.le_trans e b,fun hb=>Nat.lt_of_le_of_lt e (c hb)⟩
theorem PLe.tlt(h:PLe l S T)(k:PLt l T U):PLt l S U:=fun hS=>by
 obtain ⟨a,b⟩:=h hS;obtain ⟨c,d,e⟩:=k a;refine ⟨c,Nat.le_trans d b,fun hb=>?_⟩;cases hT:T.bad;exact Nat.lt_of_lt_of_le (e hT) b;rw [Umc hT] at d;rw [Vrb hb];omega
theorem PLt.trans(h:PLt l S T)(k:PLt l T U):PLt l S U:=h.tle k.le
theorem Zaa(S:PSt):PLt l S (failQ S):=fun hS=>by
 have e:remQ l (failQ S)=0:=rfl;exact ⟨hS,by omega,fun hb=>by rw [e,Vrb hb];omega⟩
theorem Vld(S:PSt):PLe l S (failQ S):=(Zaa S).le
theorem Yia(h:S.ix<l.length):PLt l S (adv S):=fun hS=>by
 refine ⟨h,?_,fun hb=>?_⟩;cases hb:S.bad;rw [Vrb hb,Vrb (S:=adv S) hb];show l.length-(S.ix+1)+1≤_;omega;rw [Umc (S:=adv S) hb];omega;rw [Vrb hb,Vrb (S:=adv S) hb];show l.length-(S.ix+1)+1<_;omega
theorem Jyb{k:Nat}(h:peekQ l S k≠[]):S.bad=false∧S.ix+k<l.length:=by
 unfold peekQ at h;cases hb:S.bad;refine ⟨rfl,?_⟩;cases hd:decide ((l.length:Int)≤(S.ix:Int)+(k:Int));have:=of_decide_eq_false hd;omega;rw [hb,hd] at h;exact absurd rfl h;rw [hb] at h;exact absurd rfl h
theorem Vt{s:List UInt8}(h:isQ l S s=true)(hs:s≠[]):S.bad=false∧S.ix<l.length:=by
 have:=of_decide_eq_true h;exact Jyb (k:=0) (by rw [this];exact hs)
theorem Vmd{kd:Int}{k:Nat}(h:isK l S kd k=true):S.bad=false∧S.ix+k<l.length:=by
 unfold isK at h;simp only [Bool.and_eq_true,Bool.not_eq_true',decide_eq_true_eq] at h;exact ⟨h.1.1,by have:=h.1.2;omega⟩
theorem Weg{L:List (List UInt8)}(h:inB L (peekQ l S 0)=true)(hn:inB L []=false):S.ix<l.length:=by
 refine (Jyb (S:=S) (k:=0) fun e=>?_).2;rw [e,hn] at h;cases h
theorem Xv{s:List UInt8}(h:isQ l S s=true)(hs:s≠[]):PLt l S (adv S):=Yia (Vt h hs).2
theorem Wx{s:List UInt8}(hs:s≠[])(S:PSt):PLt l S (takeQ l s S):=by
 unfold takeQ;cases h:isQ l S s;exact Zaa S;exact Xv h hs
theorem Uy{s:List UInt8}(hs:s≠[])(S:PSt):PLe l S (takeQ l s S):=(Wx hs S).le
theorem Zba(S:PSt):PLt l S (nameQ l S).2:=by
 unfold nameQ;cases h:isK l S 1 0;exact Zaa S;exact Yia (Vmd h).2
theorem Qce(S:PSt):PLe l S (nameQ l S).2:=(Zba S).le
theorem Qde(S:PSt):PLe l S (semiQ l S):=by
 unfold semiQ;cases isQ l S [125] || decide ((l.length:Int)≤S.ix);exact Uy (by decide) S;exact PLe.refl S
theorem Ynd(S:PSt):PLe l S (endQ l S):=by
 unfold endQ;cases decide ((l.length:Int)≤(semiQ l S).ix);exact Qde S;exact (Qde S).trans (Vld _)
theorem PLt.cond{b:Bool}{p q:Nd×PSt}(h:b=true→PLt l S p.2)(k:b=false→PLt l S q.2):PLt l S (bif b then p else q).2:=by
 cases b;exact k rfl;exact h rfl
theorem PLe.cond{α:Type}{b:Bool}{p q:α×PSt}(h:b=true→PLe l S p.2)(k:b=false→PLe l S q.2):PLe l S (bif b then p else q).2:=by
 cases b;exact k rfl;exact h rfl
theorem PLe.cond1{b:Bool}{p q:PSt}(h:b=true→PLe l S p)(k:b=false→PLe l S q):PLe l S (bif b then p else q):=by
 cases b;exact k rfl;exact h rfl
theorem Vsb(S:PSt):PLt l S (typQ l sz S).2:=by
 unfold typQ;refine PLt.cond (fun h=>Yia (Weg h (by decide))) fun _=>?_;refine PLt.cond (fun h=>(Xv h (by decide)).trans (Zba _)) fun _=>?_;refine PLt.cond (fun h=>(Xv h (by decide)).trans ((Wx (by decide) _).trans (Wx (by decide) _))) fun _=>?_;refine PLt.cond (fun h=>(Xv h (by decide)).trans (Wx (by decide) _)) fun _=>?_;refine PLt.cond (fun h=>(Xv h (by decide)).trans ((Wx (by decide) _).trans (Wx (by decide) _))) fun _=>?_;exact Zaa S
theorem Vla(S:PSt):PLt l S (fieldQ l sz S).2:=(Zba S).trans (Vsb _)
theorem Qee:∀ (f:Nat) (acc:List Nd) (S:PSt),PLe l S (fldL l sz f acc S).2
 | 0,acc,S=>PLe.refl S
 | f+1,acc,S=>by
  rw [fldL];exact PLe.cond (fun h=>((Xv h (by decide)).trans (Vla _)).le.trans (Qee f _ _)) fun _=>PLe.refl S
theorem Vnd(S:PSt):PLt l S (paramsQ l sz S).2:=by
 unfold paramsQ;refine (Wx (s:=[40]) (by decide) S).tle ?_;exact PLe.cond (fun h=>(Xv h (by decide)).le) fun _=>((Vla _).tle ((Qee _ _ _).trans (Uy (by decide) _))).le
theorem Qfe:∀ (f:Nat) (acc:List Nd) (S:PSt),PLe l S (strL l sz f acc S).2
 | 0,acc,S=>PLe.refl S
 | f+1,acc,S=>by
  rw [strL];exact PLe.cond (fun h=>(Vla S).le.trans ((Ynd _).trans (Qfe f _ _))) fun _=>PLe.refl S
structure PzD (l:List Tok) (x:Pz):Prop where
  sts:∀ c S,PLe l S (x.sts c S).2
  bad:∀ c S,S.bad=true→x.sts c S=([],S)
  blk:∀ S,PLt l S (x.blk S).2
  ifs:∀ S,PLt l S (x.ifs S).2
  rcv:∀ S,PLt l S (x.rcv S).2
  sim:∀ c S,PLt l S (x.sim c S).2
  sel:∀ S,PLt l S (x.sel S).2
  st:∀ S,PLt l S (x.st S).2
  ex:∀ k S,PLt l S (x.ex k S).2
  un:∀ S,PLt l S (x.un S).2
  pri:∀ S,PLt l S (x.pri S).2
  opd:∀ S,PLt l S (x.opd S).2
theorem Zgh:PzD l pz0:=⟨fun _ S=>PLe.refl S,fun _ _ _=>rfl,Zaa,Zaa,Zaa,fun _=>Zaa,Zaa,Zaa,fun _=>Zaa,Zaa,Zaa,Zaa⟩
variable {x:Pz}
theorem Qge(X:PzD l x)(c:Bool):∀ (f:Nat) (acc:List Nd) (S:PSt),PLe l S (stsL l x c f acc S).2
 | 0,acc,S=>PLe.refl S
 | f+1,acc,S=>by
  rw [stsL];exact PLe.cond (fun h=>(X.st S).le.trans ((Ynd _).trans (Qge X c f _ _))) fun _=>PLe.refl S
theorem Qvg(X:PzD l x)(S:PSt):PLt l S (blkQ l sz x S).2:=(Wx (by decide) S).tle ((X.sts _ _).trans (Uy (by decide) _))
theorem Qwg(X:PzD l x)(S:PSt):PLt l S (ifsQ l sz x S).2:=by
 unfold ifsQ;refine (Wx (s:=[105,102]) (by decide) S).trans ((X.ex 1 _).trans ((X.blk _).tle ?_));refine PLe.cond (fun h=>(Xv h (by decide)).le.trans ?_) fun _=>PLe.refl _;exact PLe.cond (fun _=>(X.ifs _).le) fun _=>(X.blk _).le
theorem Qxg(X:PzD l x)(S:PSt):PLt l S (rcvQ l x S).2:=PLt.cond (fun _=>X.un S) fun _=>Zaa S
theorem Qyg(X:PzD l x)(c:Bool)(S:PSt):PLt l S (simQ l sz x c S).2:=by
 unfold simQ;refine PLt.cond (fun h=>?_) fun _=>(X.ex 1 S).tle ?_;have h2:peekQ l S 1=[58,61]:=of_decide_eq_true (Bool.and_eq_true_iff.1 h).2;have h3:=(Jyb (S:=S) (k:=1) (by rw [h2];decide)).2;have hn:(nameQ l S).2=adv S:=by unfold nameQ;rw [(Bool.and_eq_true_iff.1 h).1];rfl
 rw [hn];refine (Yia (by omega)).trans ((Yia (S:=adv S) h3).trans ?_);exact PLt.cond (fun _=>X.rcv _) fun _=>X.ex 1 _;refine PLe.cond (fun h=>(Xv h (by decide)).le.trans ?_) fun _=>?_;exact PLe.cond (fun _=>(X.rcv _).le) fun _=>(X.ex 1 _).le;refine PLe.cond (fun h=>(Xv h (by decide)).le.trans (X.ex 1 _).le) fun _=>?_;exact PLe.cond1 (fun _=>Vld _) fun _=>PLe.refl _
theorem Xie(X:PzD l x)(S:PSt):PLt l S (casQ l x S).2:=PLt.cond (fun h=>Xv h (by decide)) fun _=>(Wx (by decide) S).trans (X.sim true _)
theorem Qhe(X:PzD l x):∀ (f:Nat) (acc:List Nd) (S:PSt),PLe l S (selL l sz x f acc S).2
 | 0,acc,S=>PLe.refl S
 | f+1,acc,S=>by
  rw [selL];exact PLe.cond (fun h=>(Xie X S).le.trans ((Uy (by decide) _).trans ((X.sts true _).trans (Qhe X f _ _)))) fun _=>PLe.refl S
theorem Qzg(X:PzD l x)(S:PSt):PLt l S (selQ l sz x S).2:=(Wx (by decide) S).tle ((Uy (by decide) _).trans ((Qhe X _ _ _).trans (Uy (by decide) _)))
theorem Xjh(X:PzD l x)(S:PSt):PLt l S (stQ l sz x S).2:=by
 unfold stQ;refine PLt.cond (fun h=>?_) fun _=>?_;refine (Xv h (by decide)).trans ((Zba _).trans ((Vsb (sz:=sz) _).tle ?_));exact PLe.cond (fun h=>(Xv h (by decide)).le.trans (X.ex 1 _).le) fun _=>PLe.refl _;refine PLt.cond (fun h=>?_) fun _=>?_
 have hi:S.ix<l.length:=by
  rcases Bool.or_eq_true_iff.1 h with h|h;exact (Vt h (by decide)).2;exact (Vt h (by decide)).2
 refine (Yia hi).trans ((X.pri _).tle ?_);exact PLe.cond1 (fun _=>Vld _) fun _=>PLe.refl _;refine PLt.cond (fun h=>?_) fun _=>?_
 have hi:S.ix<l.length:=by
  rcases Bool.or_eq_true_iff.1 h with h|h;exact (Vt h (by decide)).2;exact (Vt h (by decide)).2
 exact (Yia hi).trans ((Wx (by decide) _).trans ((X.ex 1 _).trans (Wx (by decide) _)));refine PLt.cond (fun _=>X.ifs S) fun _=>?_;refine PLt.cond (fun h=>?_) fun _=>?_;refine (Xv h (by decide)).trans (PLe.tlt ?_ (X.blk _));exact PLe.cond (fun _=>PLe.refl _) fun _=>(X.ex 1 _).le;refine PLt.cond (fun h=>?_) fun _=>?_;refine (Xv h (by decide)).tle ?_;exact PLe.cond (fun _=>(X.ex 1 _).le) fun _=>PLe.refl _;refine PLt.cond (fun _=>X.sel S) fun _=>?_;exact PLt.cond (fun _=>X.blk S) fun _=>X.sim false S
theorem Yff:levelQ []=0:=by decide
theorem Wfg{k:Nat}(h:exE l k S=false):S.ix<l.length:=by
 refine (Jyb (S:=S) (k:=0) fun e=>?_).2;unfold exE at h;rw [e,Yff] at h;cases h
theorem Xxf(X:PzD l x)(k:Nat):∀ (f:Nat) (a:Nd) (S:PSt),PLe l S (exL l sz x k f a S).2
 | 0,a,S=>PLe.refl S
 | f+1,a,S=>by
  rw [exL];refine PLe.cond (fun _=>?_) fun _=>PLe.refl S;exact PLe.cond (fun _=>PLe.refl S) fun h=>(Yia (Wfg h)).le.trans ((X.ex _ _).le.trans (Xxf X k f _ _))
theorem Xkh(X:PzD l x)(k:Nat)(S:PSt):PLt l S (exQ l sz x k S).2:=(X.un S).tle (Xxf X k _ _ _)
theorem Xlh(X:PzD l x)(S:PSt):PLt l S (unQ l sz x S).2:=by
 unfold unQ;refine PLt.cond (fun h=>?_) fun _=>?_
 have hi:S.ix<l.length:=by
  rcases Bool.or_eq_true_iff.1 h with h|h;exact (Vt h (by decide)).2;exact (Vt h (by decide)).2
 exact (Yia hi).trans (X.un _);exact PLt.cond (fun h=>(Xv h (by decide)).trans (X.un _)) fun _=>X.pri S
theorem Qie(X:PzD l x):∀ (f:Nat) (acc:List Nd) (S:PSt),PLe l S (argL l x f acc S).2
 | 0,acc,S=>PLe.refl S
 | f+1,acc,S=>by
  rw [argL];exact PLe.cond (fun h=>(Xv h (by decide)).le.trans ((X.ex 1 _).le.trans (Qie X f _ _))) fun _=>PLe.refl S
theorem Jag(X:PzD l x)(a:Nd)(S:PSt):PLe l S (argQ l x a S).2:=PLe.cond (fun _=>PLe.refl S) fun _=>(X.ex 1 S).le.trans (Qie X _ _ _)
theorem Unc(X:PzD l x):∀ (f:Nat) (a:Nd) (S:PSt),PLe l S (priL l sz x f a S).2
 | 0,a,S=>PLe.refl S
 | f+1,a,S=>by
  rw [priL];refine PLe.cond (fun _=>?_) fun _=>PLe.refl S;refine PLe.cond (fun h=>(Xv h (by decide)).le.trans ((Qce _).trans (Unc X f _ _))) fun _=>?_;refine PLe.cond (fun h=>(Xv h (by decide)).le.trans ((X.ex 1 _).le.trans ((Uy (by decide) _).trans (Unc X f _ _)))) fun _=>?_;exact PLe.cond (fun h=>(Xv h (by decide)).le.trans ((Jag X _ _).trans ((Uy (by decide) _).trans (Unc X f _ _)))) fun _=>PLe.refl S
theorem Jbg(X:PzD l x)(S:PSt):PLt l S (priQ l sz x S).2:=(X.opd S).tle (Unc X _ _ _)
theorem Xyf(S:PSt):PLe l S (mkeQ l S):=by
 unfold mkeQ;refine PLe.trans ?_ ((Uy (by decide) _).trans (Uy (by decide) _));exact PLe.cond1 (fun h=>(Xv h (by decide)).le) fun _=>(Uy (by decide) _).trans (Uy (by decide) _)
theorem Jcg(X:PzD l x)(S:PSt):PLt l S (opdQ l sz x S).2:=by
 unfold opdQ;refine PLt.cond (fun _=>Zba S) fun _=>?_;refine PLt.cond (fun h=>Yia (Vmd h).2) fun _=>?_;refine PLt.cond (fun h=>?_) fun _=>?_
 have hi:S.ix<l.length:=by
  rcases Bool.or_eq_true_iff.1 h with h|h;exact (Vt h (by decide)).2;exact (Vt h (by decide)).2
 exact Yia hi;refine PLt.cond (fun h=>Xv h (by decide)) fun _=>?_;refine PLt.cond (fun h=>(Xv h (by decide)).trans ((X.ex 1 _).trans (Wx (by decide) _))) fun _=>?_;refine PLt.cond (fun h=>(Xv h (by decide)).trans ((Wx (by decide) _).trans ((Zba _).trans (Wx (by decide) _)))) fun _=>?_;refine PLt.cond (fun h=>(Xv h (by decide)).trans ((Wx (by decide) _).trans ((X.ex 1 _).trans (Wx (by decide) _)))) fun _=>?_;refine PLt.cond (fun h=>(Xv h (by decide)).trans ((Wx (by decide) _).tle ((Xyf _).trans ((X.ex 1 _).le.trans (Uy (by decide) _))))) fun _=>?_;refine PLt.cond (fun h=>(Xv h (by decide)).trans ((Wx (by decide) _).trans ((Wx (by decide) _).trans (X.blk _)))) fun _=>?_;exact Zaa S
theorem pzd_f(X:PzD l x):PzD l (pzF l sz x) :=
 ⟨fun c S=>Qge X c _ _ S,fun c S h=>by
 show stsL l x c (l.length+2) [] S=_;rw [stsL];unfold stsC;rw [h];rfl,Qvg X,Qwg X,Qxg X,Qyg X,Qzg X,Xjh X,Xkh X,Xlh X,Jbg X,Jcg X⟩
theorem Wgg:∀ n,PzD l (pzN l sz n)
 | 0=>Zgh
 | n+1=>pzd_f (Wgg n)
theorem Qje(X:PzD l x)(S:PSt):PLt l S (declQ l sz x S).2:=by
 unfold declQ;refine PLt.cond (fun h=>?_) fun _=>?_;exact (Xv h (by decide)).trans ((Zba _).tle ((Uy (by decide) _).trans ((Uy (by decide) _).trans ((Qfe _ _ _).trans (Uy (by decide) _)))));refine PLt.cond (fun h=>(Xv h (by decide)).trans ((Zba _).trans (Vsb _))) fun _=>?_;refine PLt.cond (fun h=>?_) fun _=>Zaa S;refine (Xv h (by decide)).trans ((Zba _).trans ((Vnd (sz:=sz) _).tle (PLe.trans ?_ (X.blk _).le)));exact PLe.cond (fun _=>PLe.refl _) fun _=>(Vsb _).le
end
def mutP(e:Nat):Bool:=Nat.beq e Qe
@[reducible] def gtP(n0:Nat):RelX:=⟨fun w w'=>GT mutP n0 w w',GT.refl mutP n0,fun h k=>GT.trans h k⟩
def pkCells(l:List Tok)(sz:Int)(tp:Option Addr)(tc:Nat)(S:PSt):List Value:=[.slice tp l.length tc,.int .i64 S.ix,.int .i64 sz,.bool S.bad]
section
variable {P:Program} {n:Nat} {N T:Act→World→Prop} {X:List (Nat×(Act→World→Prop))} {σ:List Ent} {w:World}
theorem Jdg{x y:Code}{α:Type}(τ:α→List Ent)(R:α→World→Prop)(h1:SC P n x (fun a w=>∃ z,Kn n (τ z) a∧R z w) X T σ w)(h2:∀ z u,R z u→SC P n y N X T (τ z) u):SC P n (.seq x y) N X T σ w :=
 Ws fun K hK=>.mk fun a ha=>Code.wp_mono (fun e a w q=>by
 cases e with
 | normal =>
  obtain ⟨z,h,r⟩:=q;exact hK _ _ (h2 z w r) a h
 | _=>exact q) (h1 a ha)
end
theorem Obk.swap{w:World}{L:List (Nat×TypeId×List Value)}{x0 x1:Nat×TypeId×List Value}(E:Obk w (x0::x1::L)):Obk w (x1::x0::L):=by
 obtain ⟨h,h1,h2,h3⟩:=E;simp only [List.map_cons,List.nodup_cons,List.mem_cons,not_or] at h;refine ⟨?_,h2,h1,h3⟩;simp only [List.map_cons,List.nodup_cons,List.mem_cons,not_or];exact ⟨⟨fun q=>h.1.1 q.symm,h.2.1⟩,h.1.2,h.2.2⟩
structure PR (l:List Tok) (sz:Int) (n0 b:Nat) (tp:Option Addr) (tc:Nat) (S:PSt) (w:World):Prop where
  B:Blk w b Qe (pkCells l sz tp tc S)
  hb:n0≤b
  ht:w.ownsRow 0 Vy 3 (.slice tp l.length tc) l.length (toksCells l)
  hi:S.ix≤l.length
  hl:l.length≤100000
section
variable {l:List Tok} {sz:Int} {n0 b tc:Nat} {tp:Option Addr} {S S':PSt} {w w':World}
theorem PR.grow(h:PR l sz n0 b tp tc S w)(g:G w w'):PR l sz n0 b tp tc S w':=⟨h.B.grow g,h.hb,Xz h.ht g,h.hi,h.hl⟩
theorem PR.lt(h:PR l sz n0 b tp tc S w):n0≤b∧b<w.heap.size:=⟨h.hb,h.B.lt⟩
theorem Vod{e e':TypeId}{base z m j:Nat}{v:Value}{xs l:List Value}(h:w.ownsRow base e z v m xs)(hB:Blk w j e' l)(he:Nat.beq e e'=false):v.ownBlock=none∨v.ownBlock≠some j:=.inr (fun hk=>by
 rcases h.2 with ⟨h1,_⟩|⟨g,cap,cur,h1,h2,h3,_⟩;rw [h1] at hk;cases hk;rw [h1] at hk;have:g=j:=by injection hk
 subst this;unfold Blk at hB;rw [hB] at h3;injection h3 with h3;injection h3 with _ h3;subst h3;simp at he)
theorem PR.set(h:PR l sz n0 b tp tc S w)(hg:w.grownBy w' (some b))(hB:Blk w' b Qe (pkCells l sz tp tc S'))(hi:S'.ix≤l.length):PR l sz n0 b tp tc S' w' :=
 ⟨hB,h.hb,Xw h.ht hg (Vod h.ht h.B rfl),hi,h.hl⟩
theorem PR.keep{j:Nat}{e:TypeId}{xs:List Value}(h:PR l sz n0 b tp tc S w)(hg:w.grownBy w' (some j))(hB:Blk w j e xs)(he:Nat.beq Vy e=false)(he':Nat.beq Qe e=false):PR l sz n0 b tp tc S w' :=
 ⟨h.B.keep hg (by intro q;injection q with q;exact Yve h.B hB he' q),h.hb,Xw h.ht hg (Vod h.ht hB he),h.hi,h.hl⟩
theorem PR.keepO{X:List Nat}{lo:Nat}{ks:List Nd}{s:Value}(h:PR l sz n0 b tp tc S w)(hg:w.grownBy w' s.ownBlock)(hO:OwnN X lo w ks s):PR l sz n0 b tp tc S w':=by
 have hne:∀ k,s.ownBlock=some k→NdR w k:=hO.nd;refine ⟨h.B.keep hg fun q=>?_,h.hb,Xw h.ht hg ?_,h.hi,h.hl⟩;obtain ⟨cs,fr,hn⟩:=hne b q.symm;have:=h.B;unfold Blk at this;rw [this] at hn;injection hn with hn;injection hn with _ hn;exact absurd hn (by decide);rcases h.ht.2 with ⟨h1,_⟩|⟨g,cap,cur,h1,h2,h3,_⟩;exact .inl (by rw [h1];rfl);refine .inr fun q=>?_;rw [h1] at q;obtain ⟨cs,fr,hn⟩:=hne g q.symm;rw [h3] at hn;injection hn with hn;injection hn with _ hn;exact absurd hn (by decide)
theorem Qsc(h:w.ownsRow 0 Vy 3 (.slice tp l.length tc) l.length (toksCells l)):∀ i,i<l.length→tp=some ⟨pb tp,po tp,none⟩∧RowAt w (pb tp) (po tp+i*3) (tokCells (tkn l i)):=fun i hi=>by
 obtain ⟨g,c',hv',_,hR,_⟩:=Uya h (by omega);injection hv' with e1 _ _;subst e1;have e:tkn l i=l[i]:=by simp [tkn,List.getD_eq_getElem?_getD,List.getElem?_eq_getElem hi]
 rw [e];exact ⟨rfl,Zhc (f:=tokCells) (z:=3) (fun _=>rfl) hR hi⟩
end
section
variable {l:List Tok} {sz:Int} {n0 b tc:Nat} {tp:Option Addr} {S:PSt} {w:World}
theorem Qea(k:Nat)(hk:k≤10)(h:PR l sz n0 b tp tc S w):Ret PP Xvc #[.pointer (some ⟨b,0,none⟩),.int .i64 (k:Nat)] w fun r w'=>r=Str (peekQ l S k)∧G w w':=by
 have hi:=h.hi;have hl:=h.hl;have hat:=Qsc h.ht;have g:=G.refl w;refine WK 55 [0,1] Qjb ?_;refine AU ?_;refine Zj O O O (fun _=>Xb Xf (Zm O id) (Zm O id) (fun hc=>by have:=hc.2;simp only [Bool.or_eq_false_iff,decide_eq_false_iff_not] at this;omega) (fun hc=>(hat (S.ix+k) (by have:=hc.2;simp only [Bool.or_eq_false_iff,decide_eq_false_iff_not] at this;omega)).1)) ?_;refine AU ?_;refine Yk O O O (Zw Yh (Zm O id) (fun hc=>((hat (S.ix+k) (by have:=hc.2;simp only [Bool.or_eq_false_iff,decide_eq_false_iff_not] at this;omega)).2).one (i:=0) O)) ?_;refine AU ?_;refine Zj O O O (fun _=>Xb Xf (Zm O id) (Zm O id) (fun hc=>by have:=hc.1.2;simp only [Bool.or_eq_false_iff,decide_eq_false_iff_not] at this;omega) (fun hc=>(hat (S.ix+k) (by have:=hc.1.2;simp only [Bool.or_eq_false_iff,decide_eq_false_iff_not] at this;omega)).1)) ?_;refine AU ?_;refine Yk O O O (Zw Yh (Zm O id) (fun hc=>((hat (S.ix+k) (by have:=hc.1.2;simp only [Bool.or_eq_false_iff,decide_eq_false_iff_not] at this;omega)).2).one (i:=0) O)) ?_;refine IF (fun h1=>?_) fun h1=>?_;have e:peekQ l S k=[]:=by unfold peekQ;rw [h1];rfl
 refine Zi (Zk (Yr O (Ze (kq (Xe (Up O O ?_))))));rw [e];exact ⟨rfl,g⟩;have e:peekQ l S k=(tkn l (S.ix+k)).text:=by unfold peekQ;rw [h1];rfl
 have hlt:S.ix+k<l.length:=by simp only [Bool.or_eq_false_iff,decide_eq_false_iff_not] at h1;have:=h1.1.2;omega
 refine Yb (kq (Zi (Zk (Zp O (Qq O (Yf Ur O (Yp Vn O (h.B.at_ O) (Zp O (Zq O (fun _=>Xb Xf (Zd O) (Zd O) (fun hc=>by omega) (fun hc=>(hat (S.ix+k) hlt).1)) (Yf Ja O (Wia O (Zw Yg (Zd O) (fun hc=>((hat (S.ix+k) hlt).2).one (i:=1) O)) (Yr O (Ze (kq (Xe (Up O O ?_))))))))))))))));rw [e];exact ⟨rfl,g⟩
theorem Una(s:List UInt8)(h:PR l sz n0 b tp tc S w):Ret PP Uvc #[.pointer (some ⟨b,0,none⟩),Str s] w fun r w'=>r = .bool (isQ l S s)∧G w w':=by
 have g:=G.refl w;refine WK 9 [0,1] Xxc ?_;refine AU ?_;refine CP (Qea 0 (by omega) (h.grow g)) (fun w6 g6=>?_);have g:=g.trans g6;refine RTN ?_;exact ⟨rfl,g⟩
theorem Vw(h:PR l sz n0 b tp tc S w):Ret PP Qib #[.pointer (some ⟨b,0,none⟩)] w fun r w'=>r = .int .i64 (offQ l sz S)∧G w w':=by
 have hi:=h.hi;have hat:=Qsc h.ht;have g:=G.refl w;refine WK 28 [0] Wpb ?_;refine AU ?_;refine Yx [3,3,3,0,3,3,3,0,3,3] [true,true,true,true,true,true,true,true,true,true] [0,1,3,7,0,16,48,112,240,511] mix (by kernel_rfl) ?_;have g:=gdr g;refine IF (fun h1=>?_) fun h1=>?_;have e:offQ l sz S=(tkn l S.ix).pos:=by unfold offQ;rw [h1];rfl
 have hlt:S.ix<l.length:=by have:=of_decide_eq_true h1;omega
 refine Zi (Yx [3,3,3,0,3,3,3,0,3,3,0,3] [true,true,true,true,true,true,true,true,true,true,true,true] [0,1,3,7,0,16,48,112,255,511,1023,2047] mix (by kernel_rfl) ?_);have g:=gdr g;refine Zp O (Qq O (Yf Ur O (Yp Vn O (h.B.at_ O) (Zp O (Qq O (Yf Qt O (Yp Yh O (h.B.at_ O) (Zq O (fun _=>Xb Xf (Zd O) (Zd O) (fun hc=>by omega) (fun hc=>(hat S.ix hlt).1)) (Yf Jgb O (Wia O (Zw Yh (Zd O) (fun hc=>((hat S.ix hlt).2).one (i:=2) O)) (Yr O (Ze (kq (Xe (Up O O ?_)))))))))))))));rw [e];exact ⟨rfl,g⟩;have e:offQ l sz S=sz:=by unfold offQ;rw [h1];rfl
 refine Yb (kq (Zi (Zk (Zp O (Qq O (Yf Xja O (Yp Yh O (h.B.at_ O) (Yr O (Ze (kq (Xe (Up O O ?_))))))))))));rw [e];exact ⟨rfl,g⟩
theorem Zrc(kd:Int)(k:Nat)(hk:k≤10)(h:PR l sz n0 b tp tc S w):Ret PP Qpb #[.pointer (some ⟨b,0,none⟩),.int .i64 kd,.int .i64 (k:Nat)] w fun r w'=>r = .bool (isK l S kd k)∧G w w':=by
 have hi:=h.hi;have hl:=h.hl;have hat:=Qsc h.ht;have g:=G.refl w;refine WK 40 [0,1,2] Wvb ?_;refine AU ?_;refine Zj O O O (fun _=>Xb Xf (Zm O id) (Zm O id) (fun hc=>by have:=hc.2;simp only [Bool.and_eq_true,decide_eq_true_eq] at this;omega) (fun hc=>(hat (S.ix+k) (by have:=hc.2;simp only [Bool.and_eq_true,decide_eq_true_eq] at this;omega)).1)) ?_;refine AU ?_;refine Yk O O O (Zw Yh (Zm O id) (fun hc=>((hat (S.ix+k) (by have:=hc.2;simp only [Bool.and_eq_true,decide_eq_true_eq] at this;omega)).2).one (i:=0) O)) ?_;refine RTN ?_;exact ⟨rfl,g⟩
theorem Uda(h:PR l sz n0 b tp tc S w):Ret PP Xyc #[.pointer (some ⟨b,0,none⟩)] w fun r w'=>r = .tuple #[]∧PR l sz n0 b tp tc (failQ S) w'∧GT mutP n0 w w':=by
 have hi:=h.hi;have g:=GT.refl mutP n0 w;refine WK 5 [0] Qlb ?_;refine AU ?_;refine Yq O Zre (Zd O) Xg O h.B O O ?_;intro wS1 hgS1 _ BS;have g:=Wu g hgS1 h.B rfl h.hb;have h:=h.set (S':=failQ S) hgS1 BS hi;refine Ze (Qn O ?_);exact ⟨rfl,h,g⟩
theorem Wj(s:List UInt8)(hs:s≠[])(h:PR l sz n0 b tp tc S w):Ret PP Xuc #[.pointer (some ⟨b,0,none⟩),Str s] w fun r w'=>r = .tuple #[]∧PR l sz n0 b tp tc (takeQ l s S) w'∧GT mutP n0 w w':=by
 have hi:=h.hi;have hl:=h.hl;have g:=GT.refl mutP n0 w;refine WK 17 [0,1] Qhb ?_;refine AU ?_;refine CL (Una s h) ?_;rintro v6 w6 ⟨rfl,g6⟩;refine ⟨fun _=>g6,?_⟩;have g:=gtg g g6;have h:=h.grow (g6);refine IF (fun h1=>?_) fun h1=>?_;have hq:isQ l S s=false:=by simpa using h1
 have e:takeQ l s S=failQ S:=by unfold takeQ;rw [hq];rfl
 refine AU ?_;refine CL (Uda h) ?_;rintro v9 w9 ⟨rfl,h,g9⟩;refine ⟨nw1,?_⟩;have g:=g.trans g9;refine RTN ?_;rw [e];exact ⟨rfl,h,g⟩;have hq:isQ l S s=true:=by simpa using h1
 have e:takeQ l s S=adv S:=by unfold takeQ;rw [hq];rfl
 have hlt:=(Vt hq hs).2;refine AU ?_;refine Yq O Va (Zd O) (Zd O) O h.B O O ?_;intro wS1 hgS1 _ BS;have g:=Wu g hgS1 h.B rfl h.hb;have h:=h.set (S':=adv S) hgS1 BS hlt;refine Ze (Qn O ?_);rw [e];exact ⟨rfl,h,g⟩
theorem Zxa(s:List UInt8)(hs:s≠[])(h:PR l sz n0 b tp tc S w):Ret PP Qqb #[.pointer (some ⟨b,0,none⟩),Str s] w fun r w'=>r = .bool (isQ l S s)∧PR l sz n0 b tp tc (bif isQ l S s then adv S else S) w'∧GT mutP n0 w w':=by
 have hi:=h.hi;have hl:=h.hl;have g:=GT.refl mutP n0 w;refine WK 16 [0,1] Wwb ?_;refine AU ?_;refine CL (Una s h) ?_;rintro v7 w7 ⟨rfl,g7⟩;refine ⟨fun _=>g7,?_⟩;have g:=gtg g g7;have h:=h.grow (g7);refine IF (fun h1=>?_) fun h1=>?_;have hq:isQ l S s=false:=by simpa using h1
 refine RTN ?_;rw [hq];exact ⟨rfl,h,g⟩;have hq:isQ l S s=true:=by simpa using h1
 have hlt:=(Vt hq hs).2;refine AU ?_;refine Yq O Va (Zd O) (Zd O) O h.B O O ?_;intro wS1 hgS1 _ BS;have g:=Wu g hgS1 h.B rfl h.hb;have h:=h.set (S':=adv S) hgS1 BS hlt;refine RTN ?_;rw [hq];exact ⟨rfl,h,g⟩
theorem Qfa(h:PR l sz n0 b tp tc S w):Ret PP Xwc #[.pointer (some ⟨b,0,none⟩)] w fun r w'=>r=Str (nameQ l S).1∧PR l sz n0 b tp tc (nameQ l S).2 w'∧GT mutP n0 w w':=by
 have hi:=h.hi;have hl:=h.hl;have g:=GT.refl mutP n0 w;refine WK 27 [0] Qkb ?_;refine AU ?_;refine CL (Zrc 1 0 (by omega) h) ?_;rintro v4 w4 ⟨rfl,g4⟩;refine ⟨fun _=>g4,?_⟩;have g:=gtg g g4;have h:=h.grow (g4);refine IF (fun h1=>?_) fun h1=>?_;have hq:isK l S 1 0=false:=by simpa using h1
 have e:nameQ l S=([],failQ S):=by unfold nameQ;rw [hq];rfl
 refine AU ?_;refine CL (Uda h) ?_;rintro v7 w7 ⟨rfl,h,g7⟩;refine ⟨nw1,?_⟩;have g:=g.trans g7;refine RTN ?_;rw [e];exact ⟨rfl,h,g⟩;have hq:isK l S 1 0=true:=by simpa using h1
 have e:nameQ l S=((tkn l S.ix).text,adv S):=by unfold nameQ;rw [hq];rfl
 have hlt:=(Vmd hq).2;refine AU ?_;refine Yq O Va (Zd O) (Zd O) O h.B O O ?_;intro wS1 hgS1 _ BS;have g:=Wu g hgS1 h.B rfl h.hb;have h:=h.set (S':=adv S) hgS1 BS hlt;have hat:=Qsc h.ht S.ix hlt;refine Ze (kq (Zi (Yx [3,3,3,0,3,3,3,0,3,3,3,0,3] [true,true,true,true,true,true,true,true,true,true,true,true,true] [0,1,3,7,0,16,48,112,240,511,1023,2047,4095] mix (by kernel_rfl) ?_)));have g:=gtd g;have h:=h.grow (G.drew _);refine Zp O (Qq O (Yf Ur O (Yp Vn O (h.B.at_ O) (Zp O (Qq O (Yf Qt O (Yp Yh O (h.B.at_ O) (Zq O (fun _=>Yfb (Zd O) Xg (fun _=>by show _≤((S.ix+1:Nat):Int)-1∧((S.ix+1:Nat):Int)-1≤_;omega)) (Zq O (fun _=>Xb Xf (Zd O) (Zd O) (fun hc=>by show (0:Int)≤((S.ix+1:Nat):Int)-1∧((S.ix+1:Nat):Int)-1<_;omega) (fun hc=>hat.1)) (Yf Ja O (Wia O (Zw Yg (Zd O) (fun hc=>by have:=(hat.2.one (i:=1) O);rw [show (((adv S).ix:Int)-1).toNat=S.ix by show (((S.ix+1:Nat):Int)-1).toNat=_;omega];exact this)) (Yr O (Ze (kq (Xe (Up O O ?_))))))))))))))));rw [e];exact ⟨rfl,h,g⟩
theorem Xzf(h:PR l sz n0 b tp tc S w):Ret PP Xab #[.pointer (some ⟨b,0,none⟩)] w fun r w'=>r = .tuple #[]∧PR l sz n0 b tp tc (semiQ l S) w'∧GT mutP n0 w w':=by
 have hi:=h.hi;have hl:=h.hl;have g:=GT.refl mutP n0 w;refine WK 18 [0] Zob ?_;refine AU ?_;refine Yx [3,1,3,3,3,3,0,3,3,3,0,3,3,3] [true,true,true,true,true,true,true,true,true,true,true,true,true,true] [0,1,3,7,15,31,63,7,135,391,903,1927,4095,8191] mix (by kernel_rfl) ?_;have g:=gtd g;have h:=h.grow (G.drew _);refine AU ?_;refine CL (Una [125] h) ?_;rintro v3 w3 ⟨rfl,g3⟩;refine ⟨fun _=>g3,?_⟩;have g:=gtg g g3;have h:=h.grow (g3);refine IF (fun h1=>?_) fun h1=>?_;have e:semiQ l S=S:=by unfold semiQ;rw [h1];rfl
 refine Xe (Qve O ?_);rw [e];exact ⟨rfl,h,g⟩;have e:semiQ l S=takeQ l [59] S:=by unfold semiQ;rw [h1];rfl
 refine AU ?_;refine CL (Wj [59] (by decide) h) ?_;rintro v17 w17 ⟨rfl,h,g17⟩;refine ⟨nw1,?_⟩;have g:=g.trans g17;refine Ze (Qn O ?_);rw [e];exact ⟨rfl,h,g⟩
theorem Whg(s:List UInt8)(w:World):Ret PP Zpe #[Str s] w fun r w'=>r = .int .i64 (levelQ s:Nat)∧G w w':=by
 have g:=G.refl w;refine WK 22 [0] Xrd ?_;refine IF (fun h1=>?_) fun h1=>?_;skip;refine RTN ?_;unfold levelQ;rw [h1];exact ⟨rfl,g⟩;skip;refine IF (fun h2=>?_) fun h2=>?_;skip;refine RTN ?_;unfold levelQ;rw [h1,h2];exact ⟨rfl,g⟩;skip;refine AU ?_;refine' OR [2,3] (fun hb3=>?y3) (kq ?n3)
 case y3 =>
  refine AU ?_;refine' OR [2,3] (fun hb4=>?y4) knr
  case y4 =>
   refine AU ?_;refine' OR [2,3] (fun hb5=>?y5) knr
   case y5 =>
    refine AU ?_;refine' OR [2,3] (fun hb6=>?y6) knr
    case y6 =>
     refine AU ?_;refine' OR [2,3] (fun hb7=>?y7) knr
     case y7 =>
      refine AU ?_;refine SK [8,2,3] ?_;exact Ze knr
 case n3 =>
  refine IF (fun h8=>?_) fun h8=>?_;have e3:inB [[61,61],[33,61],[60],[60,61],[62],[62,61]] s=true:=by rw [← h8];simp [inB]
  refine RTN ?_;unfold levelQ;rw [h1,h2,e3];exact ⟨rfl,g⟩;have e3:inB [[61,61],[33,61],[60],[60,61],[62],[62,61]] s=false:=by rw [← h8];simp [inB]
  refine AU ?_;refine' OR [2,3] (fun hb9=>?y9) (kq ?n9)
  case y9 =>
   refine AU ?_;refine SK [15,2,3] ?_;exact Ze knr
  case n9 =>
   refine IF (fun h10=>?_) fun h10=>?_;have e4:inB [[43],[45]] s=true:=by rw [← h10];simp [inB]
   refine RTN ?_;unfold levelQ;rw [h1,h2,e3,e4];exact ⟨rfl,g⟩;have e4:inB [[43],[45]] s=false:=by rw [← h10];simp [inB]
   refine AU ?_;refine' OR [2] (fun hb11=>?y11) (kq ?n11)
   case y11 =>
    refine AU ?_;refine' OR [2] (fun hb12=>?y12) knr
    case y12 =>
     refine AU ?_;refine SK [18,2] ?_;exact Ze knr
   case n11 =>
    refine IF (fun h13=>?_) fun h13=>?_;have e5:inB [[42],[47],[37]] s=true:=by rw [← h13];simp [inB]
    refine RTN ?_;unfold levelQ;rw [h1,h2,e3,e4,e5];exact ⟨rfl,g⟩;have e5:inB [[42],[47],[37]] s=false:=by rw [← h13];simp [inB]
    refine RTN ?_;unfold levelQ;rw [h1,h2,e3,e4,e5];exact ⟨rfl,g⟩
end
set_option maxHeartbeats 1000000
section
variable {lo lo' n0 j b:Nat} {X:List Nat} {w w':World} {ks:List Nd} {v:Value}
theorem KdX.gtp(h:KdX lo X w ks v)(g:GT mutP n0 w w'):KdX lo X w' ks v:=Zqa h (fun k hk _=>⟨hk.1,hk.2.gt g rfl⟩) fun k hk hlt=>g.block k hlt (.inr (hk.2.ntyr rfl))
end
section
variable {l:List Tok} {sz:Int} {n0 b tc:Nat} {tp:Option Addr} {S:PSt} {w w':World}
theorem PR.adv(h:PR l sz n0 b tp tc S w)(hg:w.grownBy w' (some b))(hB:Blk w' b Qe (pkCells l sz tp tc (adv S)))(hi:S.ix<l.length):PR l sz n0 b tp tc (adv S) w':=h.set hg hB hi
theorem PLt.num{T:PSt}(h:PLt l S T)(hS:S.ix≤l.length):remQ l T≤remQ l S∧(remQ l S=0∨remQ l T<remQ l S):=by
 obtain ⟨_,h2,h3⟩:=h hS;cases hb:S.bad;exact ⟨h2,.inr (h3 hb)⟩;exact ⟨h2,.inl (Umc hb)⟩
theorem PLe.num{T:PSt}(h:PLe l S T)(hS:S.ix≤l.length):remQ l T≤remQ l S:=(h hS).2
theorem Uea(h:S.bad=false):1≤remQ l S:=by rw [Vrb h];omega
theorem Ufa:remQ l S≤l.length+1:=by
 unfold remQ;cases S.bad;show l.length-S.ix+1≤_;omega;exact Nat.zero_le _
theorem Qd{s:List UInt8}(h:isQ l S s=true)(hs:s≠[]):1≤remQ l S:=Uea (Vt h hs).1
end
def PkN(l:List Tok)(sz:Int)(m rk:Nat)(fn:FuncId)(a:List Value)(X:PSt→Nd×PSt):Prop:=∀ {n0 b tc:Nat} {tp:Option Addr} {S:PSt} {w:World},PR l sz n0 b tp tc S w→8*remQ l S+rk<m→
 Ret PP fn (Value.pointer (some ⟨b,0,none⟩)::a).toArray w fun r w'=>RetN (X S).1 w.heap.size r w'∧PR l sz n0 b tp tc (X S).2 w'∧GT mutP n0 w w'
def PkL(l:List Tok)(sz:Int)(m rk:Nat)(fn:FuncId)(a:List Value)(X:PSt→List Nd×PSt):Prop:=∀ {n0 b tc:Nat} {tp:Option Addr} {S:PSt} {w:World},PR l sz n0 b tp tc S w→(S.bad=true∨8*remQ l S+rk<m)→
 Ret PP fn (Value.pointer (some ⟨b,0,none⟩)::a).toArray w fun r w'=>KdN w.heap.size w' (X S).1 r∧PR l sz n0 b tp tc (X S).2 w'∧GT mutP n0 w w'
section
variable {l:List Tok} {sz:Int} {m rk:Nat} {fn:FuncId} {a:List Value} {n0 b tc:Nat} {tp:Option Addr} {S:PSt} {w:World}
theorem PkN.to{X:PSt→Nd×PSt}(H:PkN l sz m rk fn a X){m0:Nat}(Z:List Nat)(h:PR l sz n0 b tp tc S w)(hc:8*remQ l S+rk<m)(hZ:∀ j∈Z,j<w.heap.size)(hm:m0≤w.heap.size) :
 Ret PP fn (Value.pointer (some ⟨b,0,none⟩)::a).toArray w fun r w'=>(∃ p c,r=ndV (X S).1 (.slice p (X S).1.kids.length c)∧m0≤w.heap.size∧KdX w.heap.size Z w' (X S).1.kids (.slice p (X S).1.kids.length c))∧PR l sz n0 b tp tc (X S).2 w'∧GT mutP n0 w w' :=
 (H h hc).mono fun r w' hr=>by
 obtain ⟨⟨p,c,e,k⟩,h1,h2⟩:=hr;exact ⟨⟨p,c,e,hm,KdN.x k hZ⟩,h1,h2⟩
theorem PkL.to{X:PSt→List Nd×PSt}(H:PkL l sz m rk fn a X){m0:Nat}(Z:List Nat)(h:PR l sz n0 b tp tc S w)(hc:S.bad=true∨8*remQ l S+rk<m)(hZ:∀ j∈Z,j<w.heap.size)(hm:m0≤w.heap.size) :
 Ret PP fn (Value.pointer (some ⟨b,0,none⟩)::a).toArray w fun r w'=>(∃ p c,r = .slice p (X S).1.length c∧m0≤w.heap.size∧KdX w.heap.size Z w' (X S).1 (.slice p (X S).1.length c))∧PR l sz n0 b tp tc (X S).2 w'∧GT mutP n0 w w' :=
 (H h hc).mono fun r w' hr=>by
 obtain ⟨k,h1,h2⟩:=hr;obtain ⟨p,c,e,_⟩:=id k;subst e;exact ⟨⟨p,c,rfl,hm,KdN.x k hZ⟩,h1,h2⟩
end
section
variable {l:List Tok} {sz:Int}
theorem Xje:PkN l sz (8*l.length+100) 0 Vac [] (typQ l sz):=by
 intro n0 b tc tp S w h _;have hi:=h.hi;have hl:=h.hl;have hlt:=h.lt;have g:=GT.refl mutP n0 w;refine WK 84 [0] Yec ?_;refine AM fun _ _ ga _ g E=>?_;have h:=Ui h;refine Ze (kq (Zi (Zk (Zp O (CL (Vw h) ?_)))));rintro _ _ ⟨rfl,ga⟩;refine RC fun g E=>?_;have h:=Uk h;refine Jv Zt Xp (pqc O (pqc O pq0)) O O (AN fun _ _ ga _ g E=>?_);have h:=Ui h;refine AS fun _ ga Ca g E=>?_;have h:=Uc h;refine AU ?_;refine CL (Qea 0 (by omega) h) ?_;rintro _ _ ⟨rfl,ga⟩;refine RC fun g E=>?_;have h:=Uk h;refine AU ?_;refine' OR [0,2,3,4,10] (fun hb1=>?y1) (kq ?n1)
 case y1 =>
  refine AU ?_;refine' OR [0,2,3,4,10] (fun hb2=>?y2) knr
  case y2 =>
   refine AU ?_;refine' OR [0,2,3,4,10] (fun hb3=>?y3) knr
   case y3 =>
    refine AU ?_;refine' OR [0,2,3,4,10] (fun hb4=>?y4) knr
    case y4 =>
     refine AU ?_;refine' OR [0,2,3,4,10] (fun hb5=>?y5) knr
     case y5 =>
      refine AU ?_;refine' OR [0,2,3,4,10] (fun hb6=>?y6) knr
      case y6 =>
       refine AU ?_;refine SK [13,0,2,3,4,10] ?_;exact Ze knr
 case n1 =>
  refine IF (fun h7=>?_) fun h7=>?_;have e7:inB [[105,110,116],[98,111,111,108],[109,117,116,101,120],[114,119,109,117,116,101,120],[103,114,111,117,112],[111,110,99,101],[97,116,111,109,105,99]] (peekQ l S 0)=true:=by rw [← h7];simp [inB]
  have hadv:=Weg e7 (by decide);refine AS fun _ ga Ca g E=>?_;have h:=Uc h;refine AU ?_;refine Yq O Va (Zd O) (Zd O) O h.B O O ?_;intro wS3 hgS3 _ BS;replace E:=E.keepT hgS3 h.B rfl;have g:=Wu g hgS3 h.B rfl h.hb;have h:=h.adv hgS3 BS (by first|assumption|omega);refine AS fun _ ga Ca g E=>?_;have h:=Uc h;refine RTN ?_;have e:typQ l sz S=(mkN 7 (peekQ l S 0) 0 (offQ l sz S) [],adv S):=by unfold typQ;rw [e7];rfl
  rw [e];exact ⟨Zr (t:=mkN 7 (peekQ l S 0) 0 (offQ l sz S) []) rfl (Wv _ _),h,g⟩;have e7:inB [[105,110,116],[98,111,111,108],[109,117,116,101,120],[114,119,109,117,116,101,120],[103,114,111,117,112],[111,110,99,101],[97,116,111,109,105,99]] (peekQ l S 0)=false:=by rw [← h7];simp [inB]
  refine IF (fun h8=>?_) fun h8=>?_;have e8:isQ l S [42]=true:=h8;have hadv:=(Vt e8 (by decide)).2;refine AU ?_;refine Yq O Va (Zd O) (Zd O) O h.B O O ?_;intro wS5 hgS5 _ BS;replace E:=E.keepT hgS5 h.B rfl;have g:=Wu g hgS5 h.B rfl h.hb;have h:=h.adv hgS5 BS (by first|assumption|omega);refine AS fun _ ga Ca g E=>?_;have h:=Uc h;refine AU ?_;refine CL (Qfa h) ?_;rintro _ _ ⟨rfl,h,ga⟩;refine RC fun g E=>?_;refine AS fun _ ga Ca g E=>?_;have h:=Uc h;refine AS fun _ ga Ca g E=>?_;have h:=Uc h;refine RTN ?_;have e:typQ l sz S=(mkN 8 (nameQ l (adv S)).1 0 (offQ l sz S) [],(nameQ l (adv S)).2):=by unfold typQ;rw [e7,e8];rfl
  rw [e];exact ⟨Zr (t:=mkN 8 (nameQ l (adv S)).1 0 (offQ l sz S) []) rfl (Wv _ _),h,g⟩;have e8:isQ l S [42]=false:=h8;refine IF (fun h9=>?_) fun h9=>?_;have e9:isQ l S [91]=true:=h9;have hadv:=(Vt e9 (by decide)).2;refine AU ?_;refine Yq O Va (Zd O) (Zd O) O h.B O O ?_;intro wS9 hgS9 _ BS;replace E:=E.keepT hgS9 h.B rfl;have g:=Wu g hgS9 h.B rfl h.hb;have h:=h.adv hgS9 BS (by first|assumption|omega);refine AU ?_;refine CL (Wj [93] (by decide) h) ?_;rintro _ _ ⟨rfl,h,ga⟩;refine RC fun g E=>?_;refine AU ?_;refine CL (Wj [105,110,116] (by decide) h) ?_;rintro _ _ ⟨rfl,h,ga⟩;refine RC fun g E=>?_;refine AS fun _ ga Ca g E=>?_;have h:=Uc h;refine AS fun _ ga Ca g E=>?_;have h:=Uc h;refine RTN ?_;have e:typQ l sz S=(mkN 7 [91,93,105,110,116] 0 (offQ l sz S) [],takeQ l [105,110,116] (takeQ l [93] (adv S))):=by unfold typQ;rw [e7,e8,e9];rfl
  rw [e];exact ⟨Zr (t:=mkN 7 [91,93,105,110,116] 0 (offQ l sz S) []) rfl (Wv _ _),h,g⟩;have e9:isQ l S [91]=false:=h9;refine IF (fun h10=>?_) fun h10=>?_;have e10:isQ l S [99,104,97,110]=true:=h10;have hadv:=(Vt e10 (by decide)).2;refine AU ?_;refine Yq O Va (Zd O) (Zd O) O h.B O O ?_;intro wS12 hgS12 _ BS;replace E:=E.keepT hgS12 h.B rfl;have g:=Wu g hgS12 h.B rfl h.hb;have h:=h.adv hgS12 BS (by first|assumption|omega);refine AU ?_;refine CL (Wj [105,110,116] (by decide) h) ?_;rintro _ _ ⟨rfl,h,ga⟩;refine RC fun g E=>?_;refine AS fun _ ga Ca g E=>?_;have h:=Uc h;refine AS fun _ ga Ca g E=>?_;have h:=Uc h;refine RTN ?_;have e:typQ l sz S=(mkN 7 [99,104,97,110] 0 (offQ l sz S) [],takeQ l [105,110,116] (adv S)):=by unfold typQ;rw [e7,e8,e9,e10];rfl
  rw [e];exact ⟨Zr (t:=mkN 7 [99,104,97,110] 0 (offQ l sz S) []) rfl (Wv _ _),h,g⟩;have e10:isQ l S [99,104,97,110]=false:=h10;refine IF (fun h11=>?_) fun h11=>?_;have e11:isQ l S [102,117,110,99]=true:=h11;have hadv:=(Vt e11 (by decide)).2;refine AU ?_;refine Yq O Va (Zd O) (Zd O) O h.B O O ?_;intro wS15 hgS15 _ BS;replace E:=E.keepT hgS15 h.B rfl;have g:=Wu g hgS15 h.B rfl h.hb;have h:=h.adv hgS15 BS (by first|assumption|omega);refine AU ?_;refine CL (Wj [40] (by decide) h) ?_;rintro _ _ ⟨rfl,h,ga⟩;refine RC fun g E=>?_;refine AU ?_;refine CL (Wj [41] (by decide) h) ?_;rintro _ _ ⟨rfl,h,ga⟩;refine RC fun g E=>?_;refine AS fun _ ga Ca g E=>?_;have h:=Uc h;refine AS fun _ ga Ca g E=>?_;have h:=Uc h;refine RTN ?_;have e:typQ l sz S=(mkN 7 [102,117,110,99] 0 (offQ l sz S) [],takeQ l [41] (takeQ l [40] (adv S))):=by unfold typQ;rw [e7,e8,e9,e10,e11];rfl
  rw [e];exact ⟨Zr (t:=mkN 7 [102,117,110,99] 0 (offQ l sz S) []) rfl (Wv _ _),h,g⟩;have e11:isQ l S [102,117,110,99]=false:=h11;refine AU ?_;refine CL (Uda h) ?_;rintro _ _ ⟨rfl,h,ga⟩;refine RC fun g E=>?_;refine AS fun _ ga Ca g E=>?_;have h:=Uc h;refine RTN ?_;have e:typQ l sz S=(mkN 7 [] 0 (offQ l sz S) [],failQ S):=by unfold typQ;rw [e7,e8,e9,e10,e11];rfl
  rw [e];exact ⟨Zr (t:=mkN 7 [] 0 (offQ l sz S) []) rfl (Wv _ _),h,g⟩
theorem Vpd:PkN l sz (8*l.length+100) 0 Ydc [] (fieldQ l sz):=by
 intro n0 b tc tp S w h hm;have hi:=h.hi;have hl:=h.hl;have hlt:=h.lt;have hn1:=(Zba (l:=l) S).num hi;have g:=GT.refl mutP n0 w;refine WK 15 [0] Ueb ?_;refine AM fun b2 _ ga _ g E=>?_;have h:=Ui h;refine Ze (kq (Zi (Zk (Zp O (CL (Vw h) ?_)))));rintro _ _ ⟨rfl,ga⟩;refine RC fun g E=>?_;have h:=Uk h;refine Jv Zt Xp (pqc O (pqc O pq0)) O O (AN fun b3 _ ga _ g E=>?_);have h:=Ui h;refine AS fun _ ga Ca g E=>?_;have h:=Uc h;refine AU ?_;refine CL (Qfa h) ?_;rintro _ _ ⟨rfl,h,ga⟩;refine RC fun g E=>?_;refine AS fun _ ga Ca g E=>?_;have h:=Uc h;refine AU ?_;refine CL (PkN.to (Xje) [b2,b3] h (by omega) (E.ltm (by simp [selB])) g.size) ?_;rintro _ _ ⟨⟨p11,c11,rfl,q11,k11⟩,h,ga⟩;refine RC fun g E=>?_;refine CN fun _ _ ga l12 g E=>?_;have k11:=Uj k11;have h:=Ui h;refine AS fun _ ga Ca g E=>?_;have h:=Uc h;have k11:=Ua k11;refine AS fun _ ga Ca g E=>?_;have h:=Uc h;have k11:=Ua k11;refine RTN ?_;exact ⟨Zr (t:=mkN 3 (nameQ l S).1 0 (offQ l sz S) [_]) rfl (Xm (ks:=[_]) ⟨l12,Xa E.g0⟩ E.g0.row (Yc (k11.kdN q11)) (Nat.le_refl _)),h,g⟩
theorem Urf:PkN l sz (8*l.length+100) 0 Qmb [] (paramsQ l sz):=by
 intro n0 b tc tp S w h hm;have hi:=h.hi;have hl:=h.hl;have hlt:=h.lt;have hm1:=(Wx (l:=l) (s:=[40]) (by decide) S).num hi;have g:=GT.refl mutP n0 w;refine WK 31 [0] Wrb ?_;refine AM fun b2 _ ga _ g E=>?_;have h:=Ui h;refine Ze (kq (Zi (Zk (Zp O (CL (Vw h) ?_)))));rintro _ _ ⟨rfl,ga⟩;refine RC fun g E=>?_;have h:=Uk h;refine Jv Zt Xp (pqc O (pqc O pq0)) O O (AN fun b3 _ ga _ g E=>?_);have h:=Ui h;refine AS fun _ ga Ca g E=>?_;have h:=Uc h;refine AU ?_;refine CL (Wj [40] (by decide) h) ?_;rintro _ _ ⟨rfl,h,ga⟩;refine RC fun g E=>?_;refine AU ?_;refine CL (Zxa [41] (by decide) h) ?_;rintro _ w10 ⟨rfl,h,ga⟩;refine RC fun g E=>?_;refine IF (fun h1=>?_) fun h1=>?_;have e1:isQ l (takeQ l [40] S) [41]=true:=h1;rw [e1] at h;refine AS fun _ ga Ca g E=>?_;have h:=Uc h;refine RTN ?_;have e:paramsQ l sz S=(mkN 5 [] 0 (offQ l sz S) [],adv (takeQ l [40] S)):=by unfold paramsQ;dsimp only;rw [e1];rfl
 rw [e];exact ⟨Zr (t:=mkN 5 [] 0 (offQ l sz S) []) rfl (Wv _ _),h,g⟩;have e1:isQ l (takeQ l [40] S) [41]=false:=h1;rw [e1] at h;replace h:PR l sz n0 b tp tc (takeQ l [40] S) w10:=h;have hO:OwnN [b2,b3] w.heap.size w10 [] (.slice none 0 0):=Wqa _ _ _
 have ef:paramsQ l sz S=(mkN 5 [] 0 (offQ l sz S) (fldL l sz (l.length+1) [(fieldQ l sz (takeQ l [40] S)).1] (fieldQ l sz (takeQ l [40] S)).2).1,takeQ l [41] (fldL l sz (l.length+1) [(fieldQ l sz (takeQ l [40] S)).1] (fieldQ l sz (takeQ l [40] S)).2).2):=by
  unfold paramsQ;dsimp only;rw [e1];rfl
 refine AU ?_;refine Xu (gtP n0) [3,0,3,1,1,2,3,2] [0,1,0,4,12,31,63,127] mix (by kernel_rfl) [0,1,2,3,4,5,6,7] O ?_;have g:=gtd g;replace E:=E.dr;have h:=h.grow (G.drew _);have hO:=hO.grow (G.drew _);refine Zx 0 O O (fun _=>Zn Zg (Zd O)) (Wh 1 O O (fun w1 hx=>Zw Zf (Zd O) (fun _=>(E.g0.gt hx O).at_ O)) (Zx 2 O O (fun _=>Zl (Zd O)) (Zu 3 O O ?_)));refine Zv (L':=[4,5,6,7]) [3,0,3,2,1,2,3,2] O O O ?_;refine CL (PkN.to (Vpd) [b2,b3] h (by omega) (E.ltm (by simp [selB])) g.size) ?_;rintro v15 w15 ⟨⟨p15,c15,rfl,q15,k15⟩,h,g15⟩;refine ⟨nw1,?_⟩;have g:=g.trans g15;replace E:=E.gt g15 rfl;have hO:=hO.gt g15 rfl;refine Yj (g15) ?_;refine Zu 4 O O ?_;refine Zv (L':=[5,6,7]) [3,0,3,2,1,2,3,2] O O O ?_;refine CN fun _ _ N16 _ g E=>?_;have k15:=k15.new N16;have h:=h.grow (N16.g);have hO:=hO.grow (N16.g);refine Yj (GT.of_g (N16.g)) ?_;refine Zu 5 O O ?_;refine Ye (L':=[6,7]) [3,0,3,2,1,2,3,2] O O O O ?_;have hOo:=hO;refine Xx O Zc Zt O (Zd O) hO (Zd O) O E.g0.row (Ql k15 q15 (by intro j hj;simp at hj ⊢;omega) (fun j hj=>by cases hj)) (by simp) (by have:=g.size;omega) ⟨by have:=g.size;omega,by have q2:=E.g2.lt;have q3:=E.g1.lt;simp;omega⟩ ?_;intro a17 c17 w17 hO hg17;replace E:=E.sel [false,true,true];replace E:=E.keepX hg17 hOo.ne (by simp [selB]);have g:=Ww g hg17 (fun k hk=>hOo.ge k hk);have h:=h.keepO hg17 hOo;refine Yy ?_;refine Zx 6 O O (fun _=>Zn Zg (Zd O)) (Zu 7 O O ?_);refine Ye (L':=[]) [3,0,3,2,1,2,3,2] O O O O ?_;refine AS fun _ ga Ca g E=>?_;have h:=Uc h;have hO:=Ua hO;refine Yy ?_;refine TK [0,2,3] ?_;refine AU ?_;have hnd1:=E.1
 refine Xo (fun (y:Nat×List Nd×PSt) u1=>match y with|⟨f,acc,T⟩=>(PR l sz n0 b tp tc T u1∧fldL l sz f acc T=fldL l sz (l.length+1) [(fieldQ l sz (takeQ l [40] S)).1] (fieldQ l sz (takeQ l [40] S)).2∧remQ l T≤f∧acc.length+f≤l.length+2∧remQ l T≤remQ l S∧∃ s,Blk u1 b3 Ys (ndCells (mkN 5 [] 0 (offQ l sz S) []) s)∧OwnN [b2,b3] w.heap.size u1 acc s)∧GT mutP n0 w u1) _ [(0,True,_),(2,True,_),(3,True,_)] (fun (y:Nat×List Nd×PSt)=>match y with|⟨f,acc,T⟩=>[]) (fun (y:Nat×List Nd×PSt)=>match y with|⟨f,acc,T⟩=>f) ((l.length+1,[(fieldQ l sz (takeQ l [40] S)).1],(fieldQ l sz (takeQ l [40] S)).2)) ⟨⟨h,rfl,by have:=(Vla (sz:=sz) (takeQ l [40] S)).le.num (Wx (l:=l) (s:=[40]) (by decide) S hi).1;have:=Ufa (S:=S) (l:=l);omega,by simp;omega,by have:=(Vla (sz:=sz) (takeQ l [40] S)).le.num (Wx (l:=l) (s:=[40]) (by decide) S hi).1;omega,_,E.g0,hO⟩,g⟩ (Zs (blkE E.g1) (Zz _)) (Za O (Za O (Za O (Zo _)))) ?_;clear E;rintro ⟨f,acc,T⟩ u1 ⟨hI1,gl1⟩ ⟨B2,_⟩;replace B2:Blk _ _ _ _:=B2;have g:=gl1;obtain ⟨h,he,hf,hac,hrm,s,B3,hO⟩:=hI1;obtain ⟨sa,sc,rfl⟩:=hO.slice;have E:=Jo (L:=[(b3,_,_),(b2,_,_)]) hnd1 ⟨B3,B2,trivial⟩ rfl;refine AU ?_;refine CL (Zxa [44] (by decide) h) ?_;rintro _ _ ⟨rfl,h,ga⟩;refine RC fun g E=>?_;have hO:=hO.gt ga rfl;refine IF (fun h2=>?_) fun h2=>?_;have e2:isQ l T [44]=true:=h2;rw [e2] at h;have hT:=h.hi;replace h:PR l sz n0 b tp tc (adv T) _:=h;have hr:=Qd e2 (by decide);obtain ⟨f',rfl⟩:∃ f',f=f'+1:=⟨f-1,by omega⟩;rw [fldL,e2,cond_true] at he;have hn2:=(Xv e2 (by decide)).num (show T.ix≤l.length from Nat.le_of_succ_le hT);have hn3:=(Vla (sz:=sz) (adv T)).le.num h.hi;have hOlt:=hO.lt
 refine AU ?_;refine Xu (gtP n0) [3,0,3,1,1,2,3,2] [0,1,0,4,12,31,63,127] mix (by kernel_rfl) [0,1,2,3,4,5,6,7] O ?_;have g:=gtd g;replace E:=E.dr;have h:=h.grow (G.drew _);have hO:=hO.grow (G.drew _);refine Zx 0 O O (fun _=>Zn Zg (Zd O)) (Wh 1 O O (fun w1 hx=>Zw Zf (Zd O) (fun _=>(E.g0.gt hx O).at_ O)) (Zx 2 O O (fun _=>Zl (Zd O)) (Zu 3 O O ?_)));refine Zv (L':=[4,5,6,7]) [3,0,3,2,1,2,3,2] O O O ?_;refine CL (PkN.to (Vpd) [b2,b3] h (by omega) (E.ltm (by simp [selB])) g.size) ?_;rintro v24 w24 ⟨⟨p24,c24,rfl,q24,k24⟩,h,g24⟩;refine ⟨nw1,?_⟩;have g:=g.trans g24;replace E:=E.gt g24 rfl;have hO:=hO.gt g24 rfl;refine Yj (g24) ?_;refine Zu 4 O O ?_;refine Zv (L':=[5,6,7]) [3,0,3,2,1,2,3,2] O O O ?_;refine CN fun _ _ N25 _ g E=>?_;have k24:=k24.new N25;have h:=h.grow (N25.g);have hO:=hO.grow (N25.g);refine Yj (GT.of_g (N25.g)) ?_;refine Zu 5 O O ?_;refine Ye (L':=[6,7]) [3,0,3,2,1,2,3,2] O O O O ?_;have hOo:=hO;refine Xx O Zc Zt O (Zd O) hO (Zd O) O E.g0.row (Ql k24 q24 (by intro j hj;simp at hj ⊢;omega) (fun j hj=>.inr (hOlt j hj))) (by simp;omega) (by have:=g.size;omega) ⟨by have:=g.size;omega,by have q2:=E.g2.lt;have q3:=E.g1.lt;simp;omega⟩ ?_;intro a26 c26 w26 hO hg26;replace E:=E.sel [false,true,true];replace E:=E.keepX hg26 hOo.ne (by simp [selB]);have g:=Ww g hg26 (fun k hk=>hOo.ge k hk);have h:=h.keepO hg26 hOo;refine Yy ?_;refine Zx 6 O O (fun _=>Zn Zg (Zd O)) (Zu 7 O O ?_);refine Ye (L':=[]) [3,0,3,2,1,2,3,2] O O O O ?_;refine AS fun _ ga Ca g E=>?_;have h:=Uc h;have hO:=Ua hO;refine Yy ?_;refine TK [0,2,3] ?_;refine Qp (fun a ha=>?_)
 exact ⟨(f',acc++[(fieldQ l sz (adv T)).1],(fieldQ l sz (adv T)).2),ha,⟨⟨h,he,by omega,by simp;omega,by omega,_,E.g0,hO⟩,g⟩,(Zs (blkE E.g1) (Zz _)),by show f'<f'+1;omega⟩;have e2:isQ l T [44]=false:=h2;rw [e2] at h;replace h:PR l sz n0 b tp tc T _:=h
 have he:(acc,T)=fldL l sz (l.length+1) [(fieldQ l sz (takeQ l [40] S)).1] (fieldQ l sz (takeQ l [40] S)).2:=by
  rw [← he]
  cases f with
  | zero=>rfl
  | succ f'=>rw [fldL,e2];rfl
 refine AU ?_;refine CL (Wj [41] (by decide) h) ?_;rintro _ _ ⟨rfl,h,ga⟩;refine RC fun g E=>?_;have hO:=hO.gt ga rfl;refine AS fun _ ga Ca g E=>?_;have h:=Uc h;have hO:=Ua hO;refine RTN ?_;rw [ef,← he];exact ⟨Zr (t:=mkN 5 [] 0 (offQ l sz S) acc) rfl hO.kd,h,g⟩
end
set_option maxHeartbeats 1000000
structure PzOk (l:List Tok) (sz:Int) (m:Nat) (x:Pz):Prop where
  sts:∀ c,PkL l sz m 6 Qwa [.bool c] (x.sts c)
  blk:PkN l sz m 0 Qva [] x.blk
  ifs:PkN l sz m 4 Qga [] x.ifs
  rcv:PkN l sz m 3 Ula [] x.rcv
  sim:∀ c,PkN l sz m 4 Qha [.bool c] (x.sim c)
  sel:PkN l sz m 0 Wka [] x.sel
  st:PkN l sz m 5 Vaa [] x.st
  ex:∀ k:Nat,k≤10→PkN l sz m 3 Jwa [.int .i64 (k:Nat)] (x.ex k)
  un:PkN l sz m 2 Qya [] x.un
  pri:PkN l sz m 1 Uia [] x.pri
  opd:PkN l sz m 0 Uka [] x.opd
section
variable {l:List Tok} {sz:Int} {m:Nat} {x:Pz}
theorem Wig{s:List UInt8}{S:PSt}(hb:S.bad=true)(hs:s≠[]):(takeQ l s S).bad=true:=by
 unfold takeQ;cases h:isQ l S s;rfl;have:=(Vt h hs).1;rw [hb] at this;cases this
theorem Jeg{c:Bool}{S:PSt}(h:stsC l c S=true):S.bad=false:=by
 unfold stsC at h;simp only [Bool.and_eq_true,Bool.not_eq_true'] at h;exact h.1.1
theorem Qke(X:PzD l x)(H:PkN l sz m 5 Vaa [] x.st)(c:Bool):PkL l sz (m+1) 6 Qwa [.bool c] (stsQ l x c):=by
 intro n0 b tc tp S w h hm;have hi:=h.hi;have hl:=h.hl;have hlt:=h.lt;have g:=GT.refl mutP n0 w;refine WK 48 [0,1] Ugb ?_;refine AU ?_;refine Xo (fun (y:Nat×List Nd×PSt×Option Addr×Nat) u1=>match y with|⟨f,acc,T,sa,sc⟩=>(PR l sz n0 b tp tc T u1∧stsL l x c f acc T=stsL l x c (l.length+2) [] S∧remQ l T≤f∧acc.length+f≤l.length+2∧remQ l T≤remQ l S∧OwnN [] w.heap.size u1 acc (.slice sa acc.length sc))∧GT mutP n0 w u1) _ [(0,True,_),(1,True,_),(4,True,_)] (fun (y:Nat×List Nd×PSt×Option Addr×Nat)=>match y with|⟨f,acc,T,sa,sc⟩=>[(5,True,.slice sa acc.length sc)]) (fun (y:Nat×List Nd×PSt×Option Addr×Nat)=>match y with|⟨f,acc,T,sa,sc⟩=>f) ((l.length+2,[],S,none,0)) ⟨⟨h,rfl,by have:=Ufa (S:=S) (l:=l);omega,by simp,Nat.le_refl _,Wqa _ _ _⟩,g⟩ (Zz _) (Za O (Za O (Za O (Za O (Zo _))))) ?_;rintro ⟨f,acc,T,sa,sc⟩ u1 ⟨hI1,gl1⟩ _;have g:=gl1;obtain ⟨h,he,hf,hac,hrm,hO⟩:=hI1;refine AU ?_;refine CG (fun hc=>Una [125] h) (fun w13 g13=>?_);have g:=gtg g g13;have h:=h.grow (g13);have hO:=hO.grow (g13);refine AU ?_;refine CG (fun hc=>Una [99,97,115,101] h) (fun w20 g20=>?_);have g:=gtg g g20;have h:=h.grow (g20);have hO:=hO.grow (g20);refine AU ?_;refine CG (fun hc=>Una [100,101,102,97,117,108,116] h) (fun w23 g23=>?_);have g:=gtg g g23;have h:=h.grow (g23);have hO:=hO.grow (g23);refine IF (fun h1=>?_) fun h1=>?_;replace h1:(stsC l c T)=true:=h1;have hnb:=Jeg h1;have hp:=Uea (l:=l) hnb;obtain ⟨f',rfl⟩:∃ f',f=f'+1:=⟨f-1,by omega⟩;rw [stsL,h1,cond_true] at he;have hTi:=h.hi;have hn2:=(X.st T).num hTi;have hn3:=(Ynd (l:=l) (x.st T).2).num (X.st T hTi).1;have hOlt:=hO.lt
 have hmb:8*remQ l T+5<m:=by
  rcases hm with hm|hm;rw [Umc hm] at hrm;omega;omega
 refine AU ?_;refine CL (PkN.to (H) [] h hmb (List.forall_mem_nil _) g.size) ?_;rintro v30 w30 ⟨⟨p30,c30,rfl,q30,k30⟩,h,g30⟩;refine ⟨nw1,?_⟩;have g:=g.trans g30;have hO:=hO.gt g30 rfl;refine CM fun _ _ ga _ g E=>?_;have k30:=Uj k30;have h:=Ui h;have hO:=Ui hO;have hOo:=hO;refine Xx O Zc Zt O (Zd O) hO (Zd O) O E.g0.row (Ql k30 q30 (by intro j hj;cases hj) (fun j hj=>.inr (hOlt j hj))) (by simp;omega) (by have:=g.size;omega) ⟨by have:=g.size;omega,by simp⟩ ?_;intro a32 c32 w32 hO hg32;replace E:=E.sel [false];have g:=Ww g hg32 (fun k hk=>hOo.ge k hk);have h:=h.keepO hg32 hOo;refine AU ?_;refine CL (Xzf h) ?_;rintro v34 w34 ⟨rfl,h,g34⟩;refine ⟨nw1,?_⟩;have g:=g.trans g34;have hO:=hO.gt g34 rfl;refine AU ?_;refine Yx [3,3,3,0,3,3,3,0,3,3] [true,true,true,true,true,true,true,true,true,true] [0,1,3,7,0,16,48,112,240,511] mix (by kernel_rfl) ?_;have g:=gtd g;have h:=h.grow (G.drew _);have hO:=hO.grow (G.drew _);refine IF (fun h2=>?_) fun h2=>?_;have e2:endQ l (x.st T).2=failQ (semiQ l (x.st T).2):=by unfold endQ;rw [h2];rfl
 refine AU ?_;refine CL (Uda h) ?_;rintro v46 w46 ⟨rfl,h,g46⟩;refine ⟨nw1,?_⟩;have g:=g.trans g46;have hO:=hO.gt g46 rfl;refine SK [5,0,1,4] ?_;refine Ze (fun a ha=>?_);rw [← e2] at h;exact ⟨(f',acc++[(x.st T).1],endQ l (x.st T).2,_,_),ha,⟨⟨h,he,by omega,by simp;omega,by omega,hO⟩,g⟩,(Zz _),by show f'<f'+1;omega⟩;have e2:endQ l (x.st T).2=semiQ l (x.st T).2:=by unfold endQ;rw [h2];rfl
 rw [← e2] at h;refine KC [5,0,1,4] ?_;refine Yb (fun a ha=>?_);exact ⟨(f',acc++[(x.st T).1],endQ l (x.st T).2,_,_),ha,⟨⟨h,he,by omega,by simp;omega,by omega,hO⟩,g⟩,(Zz _),by show f'<f'+1;omega⟩;replace h1:(stsC l c T)=false:=h1
 have he:(acc,T)=stsQ l x c S:=by
  show _=stsL l x c (l.length+2) [] S;rw [← he]
  cases f with
  | zero=>rfl
  | succ f'=>rw [stsL,h1];rfl
 refine RTN ?_;rw [← he];exact ⟨hO.kd,h,g⟩
theorem Wjg(X:PzD l x)(K:PzOk l sz m x):PkN l sz (m+1) 0 Qva [] (blkQ l sz x):=by
 intro n0 b tc tp S w h hm;have hi:=h.hi;have hl:=h.hl;have hlt:=h.lt;have hn:=(Wx (l:=l) (s:=[123]) (by decide) S).num hi
 have hmb:(takeQ l [123] S).bad=true∨8*remQ l (takeQ l [123] S)+6<m:=by
  cases hb:S.bad;have:=Uea (l:=l) hb;exact .inr (by omega);exact .inl (Wig hb (by decide))
 have g:=GT.refl mutP n0 w;refine WK 15 [0] Ufb ?_;refine AM fun b2 _ ga _ g E=>?_;have h:=Ui h;refine Ze (kq (Zi (Zk (Zp O (CL (Vw h) ?_)))));rintro _ _ ⟨rfl,ga⟩;refine RC fun g E=>?_;have h:=Uk h;refine Jv Zt Xp (pqc O (pqc O pq0)) O O (AN fun b3 _ ga _ g E=>?_);have h:=Ui h;refine AS fun _ ga Ca g E=>?_;have h:=Uc h;refine AU ?_;refine CL (Wj [123] (by decide) h) ?_;rintro _ _ ⟨rfl,h,ga⟩;refine RC fun g E=>?_;refine AU ?_;refine CL (PkL.to (K.sts false) [b2,b3] h hmb (E.ltm (by simp [selB])) g.size) ?_;rintro _ _ ⟨⟨p10,c10,rfl,q10,k10⟩,h,ga⟩;refine RC fun g E=>?_;refine AS fun _ ga Ca g E=>?_;have h:=Uc h;have k10:=Ua k10;refine AU ?_;refine CL (Wj [125] (by decide) h) ?_;rintro _ _ ⟨rfl,h,ga⟩;refine RC fun g E=>?_;have k10:=k10.gtp ga;refine AS fun _ ga Ca g E=>?_;have h:=Uc h;have k10:=Ua k10;refine RTN ?_;exact ⟨Zr (t:=mkN 10 [] 0 (offQ l sz S) _) rfl (k10.kdN q10),h,g⟩
theorem Xmh(X:PzD l x)(K:PzOk l sz m x):PkN l sz (m+1) 4 Qga [] (ifsQ l sz x):=by
 intro n0 b tc tp S w h hm;have hi:=h.hi;have hl:=h.hl;have hlt:=h.lt;have q1:=Wx (l:=l) (s:=[105,102]) (by decide) S;have q2:=q1.trans (X.ex 1 _);have q3:=q2.trans (X.blk _);have n1:=q1.num hi;have n2:=q2.num hi;have n3:=q3.num hi;have g:=GT.refl mutP n0 w;refine WK 33 [0] Wzb ?_;refine AM fun b2 _ ga _ g E=>?_;have h:=Ui h;refine Ze (kq (Zi (Zk (Zp O (CL (Vw h) ?_)))));rintro _ _ ⟨rfl,ga⟩;refine RC fun g E=>?_;have h:=Uk h;refine Jv Zt Xp (pqc O (pqc O pq0)) O O (AN fun b3 _ ga _ g E=>?_);have h:=Ui h;refine AS fun _ ga Ca g E=>?_;have h:=Uc h;refine AU ?_;refine CL (Wj [105,102] (by decide) h) ?_;rintro _ _ ⟨rfl,h,ga⟩;refine RC fun g E=>?_;refine AU ?_;refine CL (PkN.to (K.ex 1 (by omega)) [b2,b3] h (by omega) (E.ltm (by simp [selB])) g.size) ?_;rintro _ _ ⟨⟨p11,c11,rfl,q11,k11⟩,h,ga⟩;refine RC fun g E=>?_;refine AN fun b4 _ ga _ g E=>?_;have k11:=Uj k11;have h:=Ui h;refine AS fun _ ga Ca g E=>?_;have h:=Uc h;have k11:=Ua k11;refine AU ?_;refine Xu (gtP n0) [0,3,1,3,1,3,2] [0,0,2,0,15,31,63] mix (by kernel_rfl) [0,1,2,3,4,5,6] O ?_;have g:=gtd g;replace E:=E.dr;have h:=h.grow (G.drew _);have k11:=k11.grow (G.drew _);refine Wh 0 O O (fun w1 hx=>Zy Zh (Zd O) O (fun _=>(E.g0.gt hx O).row)) (Zx 1 O O (fun _=>Zl (Zd O)) (Zx 3 O O (fun _=>Uv [_,_,_,_,_,_,_,_,_] Zt O Xp (Xn Xg (Vk)) O) (Zu 2 O O ?_)));refine Zv (L':=[4,5,6]) [0,3,2,3,1,3,2] O O O ?_;refine CL (PkN.to (K.blk) [b2,b3,b4] h (by omega) (E.ltm (by simp [selB])) g.size) ?_;rintro v14 w14 ⟨⟨p14,c14,rfl,q14,k14⟩,h,g14⟩;refine ⟨nw1,?_⟩;have g:=g.trans g14;replace E:=E.gt g14 rfl;have k11:=k11.gtp g14;refine Yj (g14) ?_;refine Zu 4 O O ?_
 refine Zv (L':=[5,6]) [0,3,2,3,1,3,2] O O O ?_;refine CN fun b16 _ N16 l16 g E=>?_;have k11:=k11.new N16;have k14:=k14.new N16;have h:=h.grow (N16.g);refine Yj (GT.of_g (N16.g)) ?_;refine Zx 5 O O (fun _=>Zn Zg (Zd O)) (Zu 6 O O ?_);refine Ye (L':=[]) [0,3,2,3,1,3,2] O O O O ?_;refine AS fun _ ga Ca g E=>?_;have h:=Uc h;have k11:=Ua k11;have k14:=Ua k14;refine Yy ?_;refine TK [0,2,3] ?_;refine AU ?_;refine CL (Zxa [101,108,115,101] (by decide) h) ?_;rintro _ _ ⟨rfl,h,ga⟩;refine RC fun g E=>?_;have k11:=k11.gtp ga;have k14:=k14.gtp ga;refine IF (fun h1=>?_) fun h1=>?_;have e1:isQ l (x.blk (x.ex 1 (takeQ l [105,102] S)).2).2 [101,108,115,101]=true:=h1;rw [e1] at h;simp only [cond_true] at h;have n4:=(q3.tle (Xv e1 (by decide)).le).num hi;have n5:=Qd e1 (by decide);refine AU ?_;refine CL (Una [105,102] h) ?_;rintro _ _ ⟨rfl,ga⟩;refine RC fun g E=>?_;have h:=Uk h;have k11:=Uk k11;have k14:=Uk k14;refine IF (fun h2=>?_) fun h2=>?_;have e2:isQ l (adv (x.blk (x.ex 1 (takeQ l [105,102] S)).2).2) [105,102]=true:=h2;refine Xu (gtP n0) [3,0,3,1,3,2] [0,1,0,4,15,31] mix (by kernel_rfl) [0,1,2,3,4,5] O ?_;have g:=gtd g;replace E:=E.dr;have h:=h.grow (G.drew _);have k11:=k11.grow (G.drew _);have k14:=k14.grow (G.drew _);refine Zx 0 O O (fun _=>Zn Zg (Zd O)) (Wh 1 O O (fun w1 hx=>Zw Zf (Zd O) (fun _=>(E.g2.gt hx O).at_ O)) (Zx 2 O O (fun _=>Zl (Zd O)) (Zu 3 O O ?_)));refine Zv (L':=[4,5]) [3,0,3,2,3,2] O O O ?_;refine CL (PkN.to (K.ifs) [b2,b3,b4,b16] h (by omega) (E.ltm (by simp [selB])) g.size) ?_;rintro v25 w25 ⟨⟨p25,c25,rfl,q25,k25⟩,h,g25⟩;refine ⟨nw1,?_⟩;have g:=g.trans g25;replace E:=E.gt g25 rfl;have k11:=k11.gtp g25
 have k14:=k14.gtp g25;refine Yj (g25) ?_;refine Zx 4 O O (fun _=>Qna Zc (Zd O) Xg (fun _=>by omega)) (Zu 5 O O ?_);refine Ye (L':=[]) [3,0,3,2,3,2] O O O O ?_;refine Xi O Qr (Zd O) (Zd O) O O E.g0 O O ?_;intro wS4 hgS4 _ BS;have C16:=E.g0;replace E:=E.s0 hgS4 BS;have g:=Wm g hgS4 (by omega);have h:=h.keep hgS4 C16 rfl rfl;have k11:=k11.keep hgS4 (by simp);have k14:=k14.keep hgS4 (by simp);have k25:=k25.keep hgS4 (by simp);refine Yy ?_;refine TK [2,3] ?_;refine AS fun _ ga Ca g E=>?_;have h:=Uc h;have k11:=Ua k11;have k14:=Ua k14;have k25:=Ua k25;refine RTN ?_;have e:ifsQ l sz x S=(mkN 18 [] 0 (offQ l sz S) [(x.ex 1 (takeQ l [105,102] S)).1,(x.blk (x.ex 1 (takeQ l [105,102] S)).2).1,(x.ifs (adv (x.blk (x.ex 1 (takeQ l [105,102] S)).2).2)).1],(x.ifs (adv (x.blk (x.ex 1 (takeQ l [105,102] S)).2).2)).2):=by unfold ifsQ;dsimp only;rw [e1,e2];rfl
 rw [e];exact ⟨Zr (t:=mkN 18 [] 0 (offQ l sz S) [_,_,_]) rfl (Xm (ks:=[_,_,_]) ⟨l16,Xa E.g0⟩ E.g0.row (Xj (k11.kdN q11) (Xj (k14.kdN q14) (Yc (k25.kdN q25)))) (Nat.le_refl _)),h,g⟩;have e2:isQ l (adv (x.blk (x.ex 1 (takeQ l [105,102] S)).2).2) [105,102]=false:=h2;refine Xu (gtP n0) [3,0,3,1,3,2] [0,1,0,4,15,31] mix (by kernel_rfl) [0,1,2,3,4,5] O ?_;have g:=gtd g;replace E:=E.dr;have h:=h.grow (G.drew _);have k11:=k11.grow (G.drew _);have k14:=k14.grow (G.drew _);refine Zx 0 O O (fun _=>Zn Zg (Zd O)) (Wh 1 O O (fun w1 hx=>Zw Zf (Zd O) (fun _=>(E.g2.gt hx O).at_ O)) (Zx 2 O O (fun _=>Zl (Zd O)) (Zu 3 O O ?_)));refine Zv (L':=[4,5]) [3,0,3,2,3,2] O O O ?_;refine CL (PkN.to (K.blk) [b2,b3,b4,b16] h (by omega) (E.ltm (by simp [selB])) g.size) ?_;rintro v30 w30 ⟨⟨p30,c30,rfl,q30,k30⟩,h,g30⟩;refine ⟨nw1,?_⟩;have g:=g.trans g30;replace E:=E.gt g30 rfl;have k11:=k11.gtp g30;have k14:=k14.gtp g30;refine Yj (g30) ?_;refine Zx 4 O O (fun _=>Qna Zc (Zd O) Xg (fun _=>by omega)) (Zu 5 O O ?_);refine Ye (L':=[]) [3,0,3,2,3,2] O O O O ?_;refine Xi O Qr (Zd O) (Zd O) O O E.g0 O O ?_;intro wS6 hgS6 _ BS;have C16:=E.g0;replace E:=E.s0 hgS6 BS;have g:=Wm g hgS6 (by omega);have h:=h.keep hgS6 C16 rfl rfl;have k11:=k11.keep hgS6 (by simp);have k14:=k14.keep hgS6 (by simp);have k30:=k30.keep hgS6 (by simp);refine Yy ?_;refine TK [2,3] ?_;refine AS fun _ ga Ca g E=>?_;have h:=Uc h;have k11:=Ua k11;have k14:=Ua k14;have k30:=Ua k30;refine RTN ?_
 have e:ifsQ l sz x S=(mkN 18 [] 0 (offQ l sz S) [(x.ex 1 (takeQ l [105,102] S)).1,(x.blk (x.ex 1 (takeQ l [105,102] S)).2).1,(x.blk (adv (x.blk (x.ex 1 (takeQ l [105,102] S)).2).2)).1],(x.blk (adv (x.blk (x.ex 1 (takeQ l [105,102] S)).2).2)).2):=by unfold ifsQ;dsimp only;rw [e1,e2];rfl
 rw [e];exact ⟨Zr (t:=mkN 18 [] 0 (offQ l sz S) [_,_,_]) rfl (Xm (ks:=[_,_,_]) ⟨l16,Xa E.g0⟩ E.g0.row (Xj (k11.kdN q11) (Xj (k14.kdN q14) (Yc (k30.kdN q30)))) (Nat.le_refl _)),h,g⟩;have e1:isQ l (x.blk (x.ex 1 (takeQ l [105,102] S)).2).2 [101,108,115,101]=false:=h1;rw [e1] at h;simp only [cond_false] at h;refine AS fun _ ga Ca g E=>?_;have h:=Uc h;have k11:=Ua k11;have k14:=Ua k14;refine RTN ?_;have e:ifsQ l sz x S=(mkN 18 [] 0 (offQ l sz S) [(x.ex 1 (takeQ l [105,102] S)).1,(x.blk (x.ex 1 (takeQ l [105,102] S)).2).1,nonN],(x.blk (x.ex 1 (takeQ l [105,102] S)).2).2):=by unfold ifsQ;dsimp only;rw [e1];rfl
 rw [e];exact ⟨Zr (t:=mkN 18 [] 0 (offQ l sz S) [_,_,nonN]) rfl (Xm (ks:=[_,_,nonN]) ⟨l16,Xa E.g0⟩ E.g0.row (Xj (k11.kdN q11) (Xj (k14.kdN q14) (Yc (Wv _ _)))) (Nat.le_refl _)),h,g⟩
theorem Xnh(X:PzD l x)(K:PzOk l sz m x):PkN l sz (m+1) 3 Ula [] (rcvQ l x):=by
 intro n0 b tc tp S w h hm;have hi:=h.hi;have hl:=h.hl;have hlt:=h.lt;have g:=GT.refl mutP n0 w;refine WK 11 [0] Xkb ?_;refine AM fun b2 _ ga _ g E=>?_;have h:=Ui h;refine AU ?_;refine CL (Una [60,45] h) ?_;rintro _ _ ⟨rfl,ga⟩;refine RC fun g E=>?_;have h:=Uk h;refine IF (fun h1=>?_) fun h1=>?_;have e1:isQ l S [60,45]=false:=by simpa using h1
 refine AU ?_;refine CL (Uda h) ?_;rintro _ _ ⟨rfl,h,ga⟩;refine RC fun g E=>?_;refine AS fun _ ga Ca g E=>?_;have h:=Uc h;refine RTN ?_;have e:rcvQ l x S=(nd0,failQ S):=by unfold rcvQ;rw [e1];rfl
 rw [e];exact ⟨Zr (t:=nd0) rfl (Wv _ _),h,g⟩;have e1:isQ l S [60,45]=true:=by simpa using h1
 refine AU ?_;refine CL (PkN.to (K.un) [b2] h (by omega) (E.ltm (by simp [selB])) g.size) ?_;rintro _ _ ⟨⟨p10,c10,rfl,q10,k10⟩,h,ga⟩;refine RC fun g E=>?_;refine AS fun _ ga Ca g E=>?_;have h:=Uc h;have k10:=Ua k10;refine RTN ?_;have e:rcvQ l x S=x.un S:=by unfold rcvQ;rw [e1];rfl
 rw [e];exact ⟨Zr rfl (k10.kdN q10),h,g⟩
theorem Xoh(X:PzD l x)(K:PzOk l sz m x)(comm:Bool):PkN l sz (m+1) 4 Qha [.bool comm] (simQ l sz x comm):=by
 intro n0 b tc tp S w h hm;have hi:=h.hi;have hl:=h.hl;have hlt:=h.lt;have q1:=X.ex 1 S;have n1:=q1.num hi;have g:=GT.refl mutP n0 w;refine WK 84 [0,1] Vab ?_;refine AM fun b4 _ ga _ g E=>?_;have h:=Ui h;refine AU ?_;refine CL (Vw h) ?_;rintro _ _ ⟨rfl,ga⟩;refine RC fun g E=>?_;have h:=Uk h;refine AU ?_;refine CL (Zrc 1 0 (by omega) h) ?_;rintro _ _ ⟨rfl,ga⟩;refine RC fun g E=>?_;have h:=Uk h;refine AU ?_;refine CG (fun hc=>Qea 1 (by omega) h) (fun w16 g16=>?_);have g:=gtg g g16;replace E:=E.grow g16;have h:=h.grow (g16);refine IF (fun h1=>?_) fun h1=>?_;replace h1:(isK l S 1 0&&decide (peekQ l S 1=[58,61]))=true:=h1;have hk1:=(Bool.and_eq_true_iff.1 h1).1;have hk2:peekQ l S 1=[58,61]:=of_decide_eq_true (Bool.and_eq_true_iff.1 h1).2;have hk3:=(Jyb (S:=S) (k:=1) (by rw [hk2];decide)).2;have hnm:(nameQ l S).2=adv S:=by unfold nameQ;rw [hk1];rfl
 have hadv:(nameQ l S).2.ix<l.length:=by rw [hnm];exact hk3
 have n2:=((Zba S).tle (Yia hadv).le).num hi;have n3:=Uea (l:=l) (Vmd hk1).1;refine Zi (Zk (Zp O (Zp O (CL (Qfa h) ?_))));rintro _ _ ⟨rfl,h,ga⟩;refine RC fun g E=>?_;refine Jv Zt Xp (pqc O (pqc O (pqc O pq0))) O O (AN fun b6 _ ga _ g E=>?_);have h:=Ui h;refine AS fun _ ga Ca g E=>?_;have h:=Uc h;refine AU ?_;refine Yq O Va (Zd O) (Zd O) O h.B O O ?_;intro wS2 hgS2 _ BS;replace E:=E.keepT hgS2 h.B rfl;have g:=Wu g hgS2 h.B rfl h.hb;have h:=h.adv hgS2 BS (by first|assumption|omega);refine IF (fun h2=>?_) fun h2=>?_;have e2:comm=true:=h2;refine AU ?_;refine CL (PkN.to (K.rcv) [b4,b6] h (by omega) (E.ltm (by simp [selB])) g.size) ?_;rintro _ _ ⟨⟨p32,c32,rfl,q32,k32⟩,h,ga⟩;refine RC fun g E=>?_;refine CN fun _ _ ga l33 g E=>?_;have k32:=Uj k32;have h:=Ui h;refine AS fun _ ga Ca g E=>?_;have h:=Uc h;have k32:=Ua k32;refine AS fun _ ga Ca g E=>?_;have h:=Uc h;have k32:=Ua k32;refine RTN ?_;have e:simQ l sz x comm S=(mkN 11 (nameQ l S).1 0 (offQ l sz S) [(x.rcv (adv (nameQ l S).2)).1],(x.rcv (adv (nameQ l S).2)).2):=by unfold simQ;rw [h1,e2];rfl
 rw [e];exact ⟨Zr (t:=mkN 11 (nameQ l S).1 0 (offQ l sz S) [_]) rfl (Xm (ks:=[_]) ⟨l33,Xa E.g0⟩ E.g0.row (Yc (k32.kdN q32)) (Nat.le_refl _)),h,g⟩;have e2:comm=false:=h2;refine AU ?_;refine CL (PkN.to (K.ex 1 (by omega)) [b4,b6] h (by omega) (E.ltm (by simp [selB])) g.size) ?_;rintro _ _ ⟨⟨p36,c36,rfl,q36,k36⟩,h,ga⟩;refine RC fun g E=>?_;refine CN fun _ _ ga l37 g E=>?_;have k36:=Uj k36;have h:=Ui h;refine AS fun _ ga Ca g E=>?_;have h:=Uc h;have k36:=Ua k36;refine AS fun _ ga Ca g E=>?_;have h:=Uc h;have k36:=Ua k36;refine RTN ?_;have e:simQ l sz x comm S=(mkN 11 (nameQ l S).1 0 (offQ l sz S) [(x.ex 1 (adv (nameQ l S).2)).1],(x.ex 1 (adv (nameQ l S).2)).2):=by unfold simQ;rw [h1,e2];rfl
 rw [e];exact ⟨Zr (t:=mkN 11 (nameQ l S).1 0 (offQ l sz S) [_]) rfl (Xm (ks:=[_]) ⟨l37,Xa E.g0⟩ E.g0.row (Yc (k36.kdN q36)) (Nat.le_refl _)),h,g⟩;replace h1:(isK l S 1 0&&decide (peekQ l S 1=[58,61]))=false:=h1;skip;refine AU ?_;refine CL (PkN.to (K.ex 1 (by omega)) [b4] h (by omega) (E.ltm (by simp [selB])) g.size) ?_;rintro _ _ ⟨⟨p41,c41,rfl,q41,k41⟩,h,ga⟩;refine RC fun g E=>?_;refine AN fun b7 _ ga _ g E=>?_;have k41:=Uj k41;have h:=Ui h;refine AS fun _ ga Ca g E=>?_;have h:=Uc h;have k41:=Ua k41;refine AU ?_;refine CL (Vw h) ?_;rintro _ _ ⟨rfl,ga⟩;refine RC fun g E=>?_;have h:=Uk h;have k41:=Uk k41;refine AU ?_;refine CL (Zxa [61] (by decide) h) ?_;rintro _ _ ⟨rfl,h,ga⟩;refine RC fun g E=>?_;have k41:=k41.gtp ga;refine IF (fun h3=>?_) fun h3=>?_;have e3:isQ l (x.ex 1 S).2 [61]=true:=h3;rw [e3] at h;simp only [cond_true] at h;have n4:=(q1.tle (Xv e3 (by decide)).le).num hi;have n5:=Qd e3 (by decide);refine AN fun b9 _ ga _ g E=>?_;have k41:=Uj k41;have h:=Ui h;refine AS fun _ ga Ca g E=>?_;have h:=Uc h;have k41:=Ua k41;refine IF (fun h4=>?_) fun h4=>?_;have e4:comm=true:=h4;refine AU ?_;refine CL (PkN.to (K.rcv) [b4,b7,b9] h (by omega) (E.ltm (by simp [selB])) g.size) ?_;rintro _ _ ⟨⟨p50,c50,rfl,q50,k50⟩,h,ga⟩;refine RC fun g E=>?_;have k41:=k41.gtp ga;refine AS fun _ ga Ca g E=>?_;have h:=Uc h;have k41:=Ua k41;have k50:=Ua k50;refine Ze (kq (Zi (Zk (Zp O (Ve Zh O O E.g1.row (Ve Zh O O E.g0.row (CN fun _ _ ga l56 g E=>?_)))))));have k41:=Uj k41;have k50:=Uj k50;have h:=Ui h;refine Jv Zt Xp (pqc O (pqc O (pqc O pq0))) O O (AS fun _ ga Ca g E=>?_);have h:=Uc h;have k41:=Ua k41;have k50:=Ua k50;refine RTN ?_
 have e:simQ l sz x comm S=(mkN 12 [] 0 (offQ l sz (x.ex 1 S).2) [(x.ex 1 S).1,(x.rcv (adv (x.ex 1 S).2)).1],(x.rcv (adv (x.ex 1 S).2)).2):=by unfold simQ;rw [h1];dsimp only [cond_false];rw [e3,e4];rfl
 rw [e];exact ⟨Zr (t:=mkN 12 [] 0 (offQ l sz (x.ex 1 S).2) [_,_]) rfl (Xm (ks:=[_,_]) ⟨l56,Xa E.g0⟩ E.g0.row (Xj (k41.kdN q41) (Yc (k50.kdN q50))) (Nat.le_refl _)),h,g⟩;have e4:comm=false:=h4;refine AU ?_;refine CL (PkN.to (K.ex 1 (by omega)) [b4,b7,b9] h (by omega) (E.ltm (by simp [selB])) g.size) ?_;rintro _ _ ⟨⟨p52,c52,rfl,q52,k52⟩,h,ga⟩;refine RC fun g E=>?_;have k41:=k41.gtp ga;refine AS fun _ ga Ca g E=>?_;have h:=Uc h;have k41:=Ua k41;have k52:=Ua k52;refine Ze (kq (Zi (Zk (Zp O (Ve Zh O O E.g1.row (Ve Zh O O E.g0.row (CN fun _ _ ga l56 g E=>?_)))))));have k41:=Uj k41;have k52:=Uj k52;have h:=Ui h;refine Jv Zt Xp (pqc O (pqc O (pqc O pq0))) O O (AS fun _ ga Ca g E=>?_);have h:=Uc h;have k41:=Ua k41;have k52:=Ua k52;refine RTN ?_;have e:simQ l sz x comm S=(mkN 12 [] 0 (offQ l sz (x.ex 1 S).2) [(x.ex 1 S).1,(x.ex 1 (adv (x.ex 1 S).2)).1],(x.ex 1 (adv (x.ex 1 S).2)).2):=by unfold simQ;rw [h1];dsimp only [cond_false];rw [e3,e4];rfl
 rw [e];exact ⟨Zr (t:=mkN 12 [] 0 (offQ l sz (x.ex 1 S).2) [_,_]) rfl (Xm (ks:=[_,_]) ⟨l56,Xa E.g0⟩ E.g0.row (Xj (k41.kdN q41) (Yc (k52.kdN q52))) (Nat.le_refl _)),h,g⟩;have e3:isQ l (x.ex 1 S).2 [61]=false:=h3;rw [e3] at h;simp only [cond_false] at h;refine AU ?_;refine CL (Zxa [60,45] (by decide) h) ?_;rintro _ _ ⟨rfl,h,ga⟩;refine RC fun g E=>?_;have k41:=k41.gtp ga;refine IF (fun h5=>?_) fun h5=>?_;have e5:isQ l (x.ex 1 S).2 [60,45]=true:=h5;rw [e5] at h;simp only [cond_true] at h;have n4:=(q1.tle (Xv e5 (by decide)).le).num hi;have n5:=Qd e5 (by decide);refine AU ?_;refine Xu (gtP n0) [3,0,3,1,1,3,2] [0,0,0,4,14,31,63] mix (by kernel_rfl) [0,1,2,3,4,5,6] O ?_;have g:=gtd g;replace E:=E.dr;have h:=h.grow (G.drew _);have k41:=k41.grow (G.drew _);refine Zx 0 O O (fun _=>Zl (Zd O)) (Wh 1 O O (fun w1 hx=>Zy Zh (Zd O) O (fun _=>(E.g0.gt hx O).row)) (Zx 2 O O (fun _=>Zl (Zd O)) (Zu 3 O O ?_)));refine Zv (L':=[4,5,6]) [3,0,3,2,1,3,2] O O O ?_;refine CL (PkN.to (K.ex 1 (by omega)) [b4,b7] h (by omega) (E.ltm (by simp [selB])) g.size) ?_;rintro v64 w64 ⟨⟨p64,c64,rfl,q64,k64⟩,h,g64⟩;refine ⟨nw1,?_⟩;have g:=g.trans g64;replace E:=E.gt g64 rfl;have k41:=k41.gtp g64;refine Yj (g64) ?_;refine Zu 4 O O ?_;refine Zv (L':=[5,6]) [3,0,3,2,1,3,2] O O O ?_;refine CN fun _ _ N65 l65 g E=>?_;have k41:=k41.new N65;have k64:=k64.new N65;have h:=h.grow (N65.g);refine Yj (GT.of_g (N65.g)) ?_;refine Zx 5 O O (fun _=>Uv [_,_,_,_,_,_,_,_,_] Zt O Xp (Xn Xg (Xn (Zd O) (Xn (Zd O) (Vk)))) O) (Zu 6 O O ?_);refine Ye (L':=[]) [3,0,3,2,1,3,2] O O O O ?_;refine AS fun _ ga Ca g E=>?_;have h:=Uc h;have k41:=Ua k41;have k64:=Ua k64;refine Yy ?_
 refine TK [0,1,4,5,7] ?_;refine RTN ?_;have e:simQ l sz x comm S=(mkN 16 [] 0 (offQ l sz (x.ex 1 S).2) [(x.ex 1 S).1,(x.ex 1 (adv (x.ex 1 S).2)).1],(x.ex 1 (adv (x.ex 1 S).2)).2):=by unfold simQ;rw [h1];dsimp only [cond_false];rw [e3,e5];rfl
 rw [e];exact ⟨Zr (t:=mkN 16 [] 0 (offQ l sz (x.ex 1 S).2) [_,_]) rfl (Xm (ks:=[_,_]) ⟨l65,Xa E.g0⟩ E.g0.row (Xj (k41.kdN q41) (Yc (k64.kdN q64))) (Nat.le_refl _)),h,g⟩;have e5:isQ l (x.ex 1 S).2 [60,45]=false:=h5;rw [e5] at h;simp only [cond_false] at h;refine IF (fun h6=>?_) fun h6=>?_;replace h6:(!decide ((x.ex 1 S).1.kind=33)&&(comm || !decide ((x.ex 1 S).1.kind=30)))=true:=h6;skip;refine AU ?_;refine CL (Uda h) ?_;rintro _ _ ⟨rfl,h,ga⟩;refine RC fun g E=>?_;have k41:=k41.gtp ga;refine Ze (kq (Zi (Zk (Zp O (Ve Zh O O E.g0.row (CN fun _ _ ga l82 g E=>?_))))));have k41:=Uj k41;have h:=Ui h;refine Jv Zt Xp (pqc O (pqc O (pqc O pq0))) O O (AS fun _ ga Ca g E=>?_);have h:=Uc h;have k41:=Ua k41;refine RTN ?_;have e:simQ l sz x comm S=(mkN 13 [] 0 (offQ l sz S) [(x.ex 1 S).1],failQ (x.ex 1 S).2):=by unfold simQ;rw [h1];dsimp only [cond_false];rw [e3,e5];dsimp only [cond_false];rw [h6];rfl
 rw [e];exact ⟨Zr (t:=mkN 13 [] 0 (offQ l sz S) [_]) rfl (Xm (ks:=[_]) ⟨l82,Xa E.g0⟩ E.g0.row (Yc (k41.kdN q41)) (Nat.le_refl _)),h,g⟩;replace h6:(!decide ((x.ex 1 S).1.kind=33)&&(comm || !decide ((x.ex 1 S).1.kind=30)))=false:=h6;skip;refine Yb (kq (Zi (Zk (Zp O (Ve Zh O O E.g0.row (CN fun _ _ ga l82 g E=>?_))))));have k41:=Uj k41;have h:=Ui h;refine Jv Zt Xp (pqc O (pqc O (pqc O pq0))) O O (AS fun _ ga Ca g E=>?_);have h:=Uc h;have k41:=Ua k41;refine RTN ?_;have e:simQ l sz x comm S=(mkN 13 [] 0 (offQ l sz S) [(x.ex 1 S).1],(x.ex 1 S).2):=by unfold simQ;rw [h1];dsimp only [cond_false];rw [e3,e5];dsimp only [cond_false];rw [h6];rfl
 rw [e];exact ⟨Zr (t:=mkN 13 [] 0 (offQ l sz S) [_]) rfl (Xm (ks:=[_]) ⟨l82,Xa E.g0⟩ E.g0.row (Yc (k41.kdN q41)) (Nat.le_refl _)),h,g⟩
end
set_option maxHeartbeats 2000000
section
variable {l:List Tok} {sz:Int} {m:Nat} {x:Pz}
theorem KdX.lowx{lo lo':Nat}{X Y:List Nat}{w:World}{ks:List Nd}{v:Value}(h:KdX lo X w ks v)(hl:lo'≤lo)(hY:∀ j∈Y,j∈X∨j<lo):KdX lo' Y w ks v:=Kd.mono h fun k hk _=>⟨⟨Nat.le_trans hl hk.1.1,fun hm=>by
 rcases hY k hm with q|q;exact hk.1.2 q;have:=hk.1.1;omega⟩,hk.2⟩
theorem Usf(s:List UInt8):levelQ s≤5:=by
 unfold levelQ;cases decide (s=[124,124]) <;> cases decide (s=[38,38]) <;> cases inB [[61,61],[33,61],[60],[60,61],[62],[62,61]] s <;> cases inB [[43],[45]] s <;> cases inB [[42],[47],[37]] s <;> decide
theorem ex_ok(X:PzD l x)(K:PzOk l sz m x)(k:Nat)(hk:k≤10):PkN l sz (m+1) 3 Jwa [.int .i64 (k:Nat)] (exQ l sz x k):=by
 intro n0 b tc tp S w h hm;have hi:=h.hi;have hl:=h.hl;have hlt:=h.lt;have n1:=(X.un S).num hi;have g:=GT.refl mutP n0 w;refine WK 49 [0,1] Qxb ?_;refine AM fun b4 _ ga _ g E=>?_;have h:=Ui h;refine AU ?_;refine CL (PkN.to (K.un) [b4] h (by omega) (E.ltm (by simp [selB])) g.size) ?_;rintro _ _ ⟨⟨p10,c10,rfl,q10,k10⟩,h,ga⟩;refine RC fun g E=>?_;refine AN fun b5 _ ga _ g E=>?_;have k10:=Uj k10;have h:=Ui h;refine AS fun _ ga Ca g E=>?_;have h:=Uc h;have k10:=Ua k10;refine AU ?_;have hnd1:=E.1;refine Xo (fun (y:Nat×Nd×PSt) u1=>match y with|⟨f,ta,T⟩=>(PR l sz n0 b tp tc T u1∧exL l sz x k f ta T=exQ l sz x k S∧remQ l T≤f∧remQ l T≤remQ l (x.un S).2∧∃ p c,Blk u1 b5 Ys (ndCells ta (.slice p ta.kids.length c))∧KdX w.heap.size [b4,b5] u1 ta.kids (.slice p ta.kids.length c))∧GT mutP n0 w u1) _ [(0,True,_),(1,True,_),(4,True,_),(5,True,_)] (fun (y:Nat×Nd×PSt)=>match y with|⟨f,ta,T⟩=>[]) (fun (y:Nat×Nd×PSt)=>match y with|⟨f,ta,T⟩=>f) ((l.length+2,(x.un S).1,(x.un S).2)) ⟨⟨h,rfl,by have:=Ufa (S:=(x.un S).2) (l:=l);omega,Nat.le_refl _,_,_,E.g0,KdX.lowx k10 q10 (by intro j hj;simp at hj ⊢;omega)⟩,g⟩ (Zs (blkE E.g1) (Zz _)) (Za O (Za O (Za O (Za O (Zo _))))) ?_;clear E;rintro ⟨f,ta,T⟩ u1 ⟨hI1,gl1⟩ ⟨B4,_⟩;replace B4:Blk _ _ _ _:=B4;have g:=gl1;obtain ⟨h,he,hf,hrm,pa,ca,B5,ka⟩:=hI1;have hTi:=h.hi;have E:=Jo (L:=[(b5,_,_),(b4,_,_)]) hnd1 ⟨B5,B4,trivial⟩ rfl;refine IF (fun h1=>?_) fun h1=>?_;replace h1:(!T.bad)=true:=h1;have hnb:T.bad=false:=by simpa using h1
 have hp:=Uea (l:=l) hnb;obtain ⟨f',rfl⟩:∃ f',f=f'+1:=⟨f-1,by omega⟩;rw [exL,h1,cond_true] at he;refine AU ?_;refine CL (Qea 0 (by omega) h) ?_;rintro _ _ ⟨rfl,ga⟩;refine RC fun g E=>?_;have ka:=Uk ka;have h:=Uk h;refine CP (Whg _ _) (fun w18 g18=>?_);have g:=gtg g g18;replace E:=E.grow g18;have ka:=ka.grow (g18);have h:=h.grow (g18);refine IF (fun h2=>?_) fun h2=>?_;replace h2:(exE l k T)=true:=h2;rw [h2,cond_true] at he;refine AS fun _ ga Ca g E=>?_;have ka:=Ua ka;have h:=Uc h;refine RTN ?_;rw [← he];exact ⟨Zr rfl (ka.kdN (Nat.le_refl _)),h,g⟩;replace h2:(exE l k T)=false:=h2;rw [h2,cond_false] at he;have hadv:=Wfg h2;have hlv:=Usf (peekQ l T 0);have n3:=(Yia hadv).num hTi;have n4:=(X.ex (levelQ (peekQ l T 0)+1) (adv T)).num (show (adv T).ix≤l.length from hadv);refine AU ?_;refine CL (Qea 0 (by omega) h) ?_;rintro _ _ ⟨rfl,ga⟩;refine RC fun g E=>?_;have ka:=Uk ka;have h:=Uk h;refine Zp O (CL (Vw h) ?_);rintro _ _ ⟨rfl,ga⟩;refine RC fun g E=>?_;have ka:=Uk ka;have h:=Uk h;refine Jv Zt Xp (pqc O (pqc O (pqc O pq0))) O O (AN fun b7 _ ga _ g E=>?_);have ka:=Uj ka;have h:=Ui h;refine AS fun _ ga Ca g E=>?_;have ka:=Ua ka;have h:=Uc h;refine AU ?_;refine Yq O Va (Zd O) (Zd O) O h.B O O ?_;intro wS4 hgS4 _ BS;replace E:=E.keepT hgS4 h.B rfl;have ka:=ka.keepb hgS4 h.B rfl;have g:=Wu g hgS4 h.B rfl h.hb;have h:=h.adv hgS4 BS (by first|assumption|omega);refine AU ?_;refine CL (PkN.to (K.ex (levelQ (peekQ l T 0)+1) (by omega)) [b4,b5,b7] h (by omega) (E.ltm (by simp [selB])) g.size) ?_;rintro _ _ ⟨⟨p42,c42,rfl,q42,k42⟩,h,ga⟩;refine RC fun g E=>?_;have ka:=ka.gtp ga;refine AN fun _ _ ga _ g E=>?_;have ka:=Uj ka;have k42:=Uj k42;have h:=Ui h
 refine AS fun _ ga Ca g E=>?_;have ka:=Ua ka;have h:=Uc h;have k42:=Ua k42;refine CN fun b45 w45 ga l45 g E=>?_;have ka:=Uj ka;have k42:=Uj k42;have h:=Ui h;have x45_8:=E.ne 0 1 rfl rfl rfl;have x45_7:=E.ne 0 2 rfl rfl rfl;have x45_5:=E.ne 0 3 rfl rfl rfl;have x45_4:=E.ne 0 4 rfl rfl rfl
 have kc:KdX w.heap.size [b4,b5,b7] w45 [ta,(x.ex (levelQ (peekQ l T 0)+1) (adv T)).1] (.slice (some ⟨b45,0,none⟩) 2 2):=by
  have kA:Kd w45 (fun k=>(w.heap.size≤k∧k∉[b4,b5,b7])∧NdR w45 k) ta.kids _:=ka.mono fun k hk _=>⟨⟨hk.1.1,by have:=hk.1.2;simp at this ⊢;omega⟩,hk.2⟩;have kB:Kd w45 (fun k=>(w.heap.size≤k∧k∉[b4,b5,b7])∧NdR w45 k) (x.ex (levelQ (peekQ l T 0)+1) (adv T)).1.kids _:=k42.mono fun k hk _=>⟨⟨Nat.le_trans q42 hk.1.1,by have:=hk.1.2;simp at this ⊢;omega⟩,hk.2⟩;exact Xm (ks:=[_,_]) ⟨⟨l45,by simp;omega⟩,Xa E.g0⟩ E.g0.row (Xj kA (Yc kB)) (Nat.le_refl _)
 refine AS fun _ ga Ca g E=>?_;have kc:=Ua kc;have ka:=Ua ka;have h:=Uc h;refine AS fun _ ga Ca g E=>?_;have kc:=Ua kc;have ka:=Ua ka;have h:=Uc h;refine SK [0,1,4,5] ?_;refine Ze (fun a ha=>?_);exact ⟨(f',mkN 32 (peekQ l T 0) 0 (offQ l sz T) [ta,(x.ex (levelQ (peekQ l T 0)+1) (adv T)).1],(x.ex (levelQ (peekQ l T 0)+1) (adv T)).2),ha,⟨⟨h,he,by omega,by omega,_,_,E.g3,KdX.lowx (lo:=w.heap.size) kc (Nat.le_refl _) (by intro j hj;simp at hj ⊢;omega)⟩,g⟩,(Zs (blkE E.g4) (Zz _)),by show f'<f'+1;omega⟩;replace h1:(!T.bad)=false:=h1
 have he:(ta,T)=exQ l sz x k S:=by
  rw [← he]
  cases f with
  | zero=>rfl
  | succ f'=>rw [exL,h1];rfl
 refine AS fun _ ga Ca g E=>?_;have ka:=Ua ka;have h:=Uc h;refine RTN ?_;rw [← he];exact ⟨Zr rfl (ka.kdN (Nat.le_refl _)),h,g⟩
theorem un_ok(X:PzD l x)(K:PzOk l sz m x):PkN l sz (m+1) 2 Qya [] (unQ l sz x):=by
 intro n0 b tc tp S w h hm;have hi:=h.hi;have hl:=h.hl;have hlt:=h.lt;have g:=GT.refl mutP n0 w;refine WK 33 [0] Utb ?_;refine AM fun b2 _ ga _ g E=>?_;have h:=Ui h;refine AU ?_;refine CL (Vw h) ?_;rintro _ _ ⟨rfl,ga⟩;refine RC fun g E=>?_;have h:=Uk h;refine AN fun b3 _ ga _ g E=>?_;have h:=Ui h;refine AS fun _ ga Ca g E=>?_;have h:=Uc h;refine AU ?_;refine CL (Qea 0 (by omega) h) ?_;rintro _ _ ⟨rfl,ga⟩;refine RC fun g E=>?_;have h:=Uk h;refine AU ?_;refine' OR [0,2,3,8] (fun hb1=>?y1) (kq ?n1)
 case y1 =>
  refine AU ?_;refine SK [11,0,2,3,8] ?_;exact Ze knr
 case n1 =>
  refine IF (fun h2=>?_) fun h2=>?_;replace h2:(isQ l S [45] || isQ l S [33])=true:=h2
  have hadv:S.ix<l.length:=by
   rcases Bool.or_eq_true_iff.1 h2 with q|q;exact (Vt q (by decide)).2;exact (Vt q (by decide)).2
  have hp:1≤remQ l S:=by
   rcases Bool.or_eq_true_iff.1 h2 with q|q;exact Qd q (by decide);exact Qd q (by decide)
  have na:=(Yia hadv).num hi;refine AS fun _ ga Ca g E=>?_;have h:=Uc h;refine AU ?_;refine CL (Qea 0 (by omega) h) ?_;rintro _ _ ⟨rfl,ga⟩;refine RC fun g E=>?_;have h:=Uk h;refine AS fun _ ga Ca g E=>?_;have h:=Uc h;refine AU ?_;refine Yq O Va (Zd O) (Zd O) O h.B O O ?_;intro wS4 hgS4 _ BS;replace E:=E.keepT hgS4 h.B rfl;have g:=Wu g hgS4 h.B rfl h.hb;have h:=h.adv hgS4 BS (by first|assumption|omega);refine AU ?_;refine CL (PkN.to (K.un) [b2,b3] h (by omega) (E.ltm (by simp [selB])) g.size) ?_;rintro _ _ ⟨⟨p29,c29,rfl,q29,k29⟩,h,ga⟩;refine RC fun g E=>?_;refine CN fun _ _ ga l30 g E=>?_;have k29:=Uj k29;have h:=Ui h;refine AS fun _ ga Ca g E=>?_;have h:=Uc h;have k29:=Ua k29;refine AS fun _ ga Ca g E=>?_;have h:=Uc h;have k29:=Ua k29;refine RTN ?_;have e:unQ l sz x S=(mkN 31 (peekQ l S 0) 0 (offQ l sz S) [(x.un (adv S)).1],(x.un (adv S)).2):=by unfold unQ;rw [h2];rfl
  rw [e];exact ⟨Zr (t:=mkN 31 (peekQ l S 0) 0 (offQ l sz S) [_]) rfl (Xm (ks:=[_]) ⟨l30,Xa E.g0⟩ E.g0.row (Yc (k29.kdN q29)) (Nat.le_refl _)),h,g⟩;replace h2:(isQ l S [45] || isQ l S [33])=false:=h2;skip;refine IF (fun h3=>?_) fun h3=>?_;have e3:isQ l S [60,45]=true:=h3;have hadv:=(Vt e3 (by decide)).2;have hp:=Qd e3 (by decide);have na:=(Xv e3 (by decide)).num hi;refine AS fun _ ga Ca g E=>?_;have h:=Uc h;refine AU ?_;refine Yq O Va (Zd O) (Zd O) O h.B O O ?_;intro wS8 hgS8 _ BS;replace E:=E.keepT hgS8 h.B rfl;have g:=Wu g hgS8 h.B rfl h.hb;have h:=h.adv hgS8 BS (by first|assumption|omega);refine AU ?_;refine CL (PkN.to (K.un) [b2,b3] h (by omega) (E.ltm (by simp [selB])) g.size) ?_;rintro _ _ ⟨⟨p29,c29,rfl,q29,k29⟩,h,ga⟩;refine RC fun g E=>?_;refine CN fun _ _ ga l30 g E=>?_;have k29:=Uj k29;have h:=Ui h;refine AS fun _ ga Ca g E=>?_;have h:=Uc h;have k29:=Ua k29;refine AS fun _ ga Ca g E=>?_;have h:=Uc h;have k29:=Ua k29;refine RTN ?_;have e:unQ l sz x S=(mkN 33 [] 0 (offQ l sz S) [(x.un (adv S)).1],(x.un (adv S)).2):=by unfold unQ;rw [h2,e3];rfl
  rw [e];exact ⟨Zr (t:=mkN 33 [] 0 (offQ l sz S) [_]) rfl (Xm (ks:=[_]) ⟨l30,Xa E.g0⟩ E.g0.row (Yc (k29.kdN q29)) (Nat.le_refl _)),h,g⟩;have e3:isQ l S [60,45]=false:=h3;refine AU ?_;refine CL (PkN.to (K.pri) [b2,b3] h (by omega) (E.ltm (by simp [selB])) g.size) ?_;rintro _ _ ⟨⟨p10,c10,rfl,q10,k10⟩,h,ga⟩;refine RC fun g E=>?_;refine AS fun _ ga Ca g E=>?_;have h:=Uc h;have k10:=Ua k10;refine RTN ?_;have e:unQ l sz x S=x.pri S:=by unfold unQ;rw [h2,e3];rfl
  rw [e];exact ⟨Zr rfl (k10.kdN q10),h,g⟩
end
set_option maxHeartbeats 4000000
section
variable {l:List Tok} {sz:Int} {m:Nat} {x:Pz}
theorem Xph(X:PzD l x)(K:PzOk l sz m x):PkN l sz (m+1) 1 Uia [] (priQ l sz x):=by
 intro n0 b tc tp S w h hm;have hi:=h.hi;have hl:=h.hl;have hlt:=h.lt;have n1:=(X.opd S).num hi;have g:=GT.refl mutP n0 w;refine WK 65 [0] Xfb ?_;refine AM fun b2 _ ga _ g E=>?_;have h:=Ui h;refine AU ?_;refine CL (PkN.to (K.opd) [b2] h (by omega) (E.ltm (by simp [selB])) g.size) ?_;rintro _ _ ⟨⟨p6,c6,rfl,q6,k6⟩,h,ga⟩;refine RC fun g E=>?_;refine AN fun b3 _ ga _ g E=>?_;have k6:=Uj k6;have h:=Ui h;refine AS fun _ ga Ca g E=>?_;have h:=Uc h;have k6:=Ua k6;refine AU ?_;have hnd1:=E.1;refine Xo (fun (y:Nat×Nd×PSt) u1=>match y with|⟨f,ta,T⟩=>(PR l sz n0 b tp tc T u1∧priL l sz x f ta T=priQ l sz x S∧remQ l T≤f∧remQ l T≤remQ l (x.opd S).2∧∃ p c,Blk u1 b3 Ys (ndCells ta (.slice p ta.kids.length c))∧KdX w.heap.size [b2,b3] u1 ta.kids (.slice p ta.kids.length c))∧GT mutP n0 w u1) _ [(0,True,_),(2,True,_),(3,True,_)] (fun (y:Nat×Nd×PSt)=>match y with|⟨f,ta,T⟩=>[]) (fun (y:Nat×Nd×PSt)=>match y with|⟨f,ta,T⟩=>f) ((l.length+2,(x.opd S).1,(x.opd S).2)) ⟨⟨h,rfl,by have:=Ufa (S:=(x.opd S).2) (l:=l);omega,Nat.le_refl _,_,_,E.g0,KdX.lowx k6 q6 (by intro j hj;simp at hj ⊢;omega)⟩,g⟩ (Zs (blkE E.g1) (Zz _)) (Za O (Za O (Za O (Zo _)))) ?_;clear E;rintro ⟨f,ta,T⟩ u1 ⟨hI1,gl1⟩ ⟨B2,_⟩;replace B2:Blk _ _ _ _:=B2;have g:=gl1;obtain ⟨h,he,hf,hrm,pa,ca,B3,ka⟩:=hI1;have hTi:=h.hi;have E:=Jo (L:=[(b3,_,_),(b2,_,_)]) hnd1 ⟨B3,B2,trivial⟩ rfl;refine IF (fun h1=>?_) fun h1=>?_
 ·replace h1:(!T.bad)=true:=h1
  have hnb:T.bad=false:=by simpa using h1
  have hp:=Uea (l:=l) hnb;obtain ⟨f',rfl⟩:∃ f',f=f'+1:=⟨f-1,by omega⟩;rw [priL,h1,cond_true] at he;refine Yb (kq (Yo (?_)));refine Jdg (fun (z:Nat×Nat)=>match z with|⟨b15,b4⟩=>[(0,True,.pointer (some ⟨b,0,none⟩)),(2,True,.pointer (some ⟨b2,0,none⟩)),(3,True,.pointer (some ⟨b3,0,none⟩)),(4,True,.pointer (some ⟨b4,0,none⟩))]) (fun (z:Nat×Nat) u=>match z with|⟨b15,b4⟩=>Obk u [(b4,Ys,ndCells (mkN 0 [] 0 (offQ l sz T) [ta]) (.slice (some ⟨b15,0,none⟩) 1 1)),(b15,Ys,ndCells ta (.slice pa ta.kids.length ca)),(b3,Ys,ndCells ta (.slice pa ta.kids.length ca)),(b2,Ys,ndCells nd0 (.slice none 0 0))]∧GT mutP n0 w u∧PR l sz n0 b tp tc T u∧KdX w.heap.size [b4,b15,b2,b3] u ta.kids (.slice pa ta.kids.length ca)∧OwnN [b2,b3,b4] w.heap.size u [ta] (.slice (some ⟨b15,0,none⟩) 1 1)∧w.heap.size≤b15∧w.heap.size≤b4) ?_ ?_
  ·refine Xu (rowR none) [3,1,0,1,3,1,2] [0,1,0,4,15,0,63] mix (by kernel_rfl) [0,1,2,3,4,5,6] rfl ?_
   have g:=gtd g;replace E:=E.dr;have ka:=ka.grow (G.drew _);have h:=h.grow (G.drew _);refine Zx 0 O O (fun _=>Zl (Zd O)) (Wh 2 O O (fun w1 hx=>Zy Zh (Zd O) O (fun _=>(E.g0.keep hx (fun h=>nomatch h)).row)) (Wzg 1 3 5 O O ?_ ?_ ?_))
   ·refine Zv (L':=[3,4,5,6]) [3,1,0,1,3,1,2] rfl rfl rfl ?_
    refine CL (Vw h) ?_;rintro v13 w13 ⟨rfl,g13⟩;refine ⟨fun _=>g13,?_⟩;have g:=gtg g g13;replace E:=E.grow g13;have ka:=ka.grow (g13);have h:=h.grow (g13);refine Yj ((g13).only _) ?_;refine Uza 3 5 O O ?_ ?_
    ·refine Zv (L':=[4,5,6]) [3,1,0,1,3,1,2] rfl rfl rfl ?_
     refine CN fun b15 w15 N15 l15 g E=>?_;have ka:=ka.new N15;have h:=h.grow (N15.g);have x15_3:=E.ne 0 1 rfl rfl rfl;have x15_2:=E.ne 0 2 rfl rfl rfl
     first
     | have hN:OwnN [b2,b3,b4] w.heap.size w15 [ta] (.slice (some ⟨b15,0,none⟩) 1 1):=Jc E.g0 l15 (ka.mono fun k hk _=>⟨⟨⟨hk.1.1,by have:=hk.1.2;simp at this ⊢;omega⟩,hk.2⟩,by have:=hk.1.2;simp at this;omega⟩) ⟨⟨l15,by simp;omega⟩,Xa E.g0⟩
     | have hN:OwnN [b2,b3] w.heap.size w15 [ta] (.slice (some ⟨b15,0,none⟩) 1 1):=Jc E.g0 l15 (ka.mono fun k hk _=>⟨⟨⟨hk.1.1,by have:=hk.1.2;simp at this ⊢;omega⟩,hk.2⟩,by have:=hk.1.2;simp at this;omega⟩) ⟨⟨l15,by simp;omega⟩,Xa E.g0⟩
     refine Yj ((N15.g).only _) ?_;refine Zx 4 O O (fun _=>Uv [_,_,_,_,_,_,_,_,_] Zt O Xp (Xn (Zd O) (Xn (Zd O) (Vk))) O) (Zu 5 O O ?_);refine Zv (L':=[6]) [3,1,0,1,3,1,2] O O O ?_;refine AN fun b4 _ N4 l4 g E=>?_;have ka:=ka.new N4;have hN:=hN.new N4;have h:=h.grow (N4.g);have x4_15:=E.ne 0 1 rfl rfl rfl;have x4_3:=E.ne 0 2 rfl rfl rfl;have x4_2:=E.ne 0 3 rfl rfl rfl;refine Yj ((N4.g).only _) ?_;refine Zu 6 O O ?_;refine Ye (L':=[]) [3,1,0,1,3,1,2] O O O O ?_;refine AS fun _ ga Ca g E=>?_;have ka:=Ua ka;have h:=Uc h;have hN:=Ua hN;refine Yy ?_;refine TK [0,2,3,4] ?_;refine Qp (fun a ha=>?_);exact ⟨⟨b15,b4⟩,ha,(by first|exact E|exact E.swap),g,h,ka.lowx (Nat.le_refl _) (by intro j hj;simp at hj ⊢;omega),hN.sub (by intro j hj;simp at hj ⊢;omega),l15,l4⟩
    ·refine Zv (L':=[3,4,6]) [3,1,0,1,3,1,2] rfl rfl rfl ?_
     refine AN fun b4 _ N4 l4 g E=>?_;have ka:=ka.new N4;have h:=h.grow (N4.g);have x4_3:=E.ne 0 1 rfl rfl rfl;have x4_2:=E.ne 0 2 rfl rfl rfl;refine Yj ((N4.g).only _) ?_;refine Zu 3 O O ?_;refine Zv (L':=[4,6]) [3,1,0,1,3,1,2] O O O ?_;refine CN fun b15 w15 N15 l15 g E=>?_;have ka:=ka.new N15;have h:=h.grow (N15.g);have x15_4:=E.ne 0 1 rfl rfl rfl;have x15_3:=E.ne 0 2 rfl rfl rfl;have x15_2:=E.ne 0 3 rfl rfl rfl
     first
     | have hN:OwnN [b2,b3,b4] w.heap.size w15 [ta] (.slice (some ⟨b15,0,none⟩) 1 1):=Jc E.g0 l15 (ka.mono fun k hk _=>⟨⟨⟨hk.1.1,by have:=hk.1.2;simp at this ⊢;omega⟩,hk.2⟩,by have:=hk.1.2;simp at this;omega⟩) ⟨⟨l15,by simp;omega⟩,Xa E.g0⟩
     | have hN:OwnN [b2,b3] w.heap.size w15 [ta] (.slice (some ⟨b15,0,none⟩) 1 1):=Jc E.g0 l15 (ka.mono fun k hk _=>⟨⟨⟨hk.1.1,by have:=hk.1.2;simp at this ⊢;omega⟩,hk.2⟩,by have:=hk.1.2;simp at this;omega⟩) ⟨⟨l15,by simp;omega⟩,Xa E.g0⟩
     refine Yj ((N15.g).only _) ?_;refine Zx 4 O O (fun _=>Uv [_,_,_,_,_,_,_,_,_] Zt O Xp (Xn (Zd O) (Xn (Zd O) (Vk))) O) (Zu 6 O O ?_);refine Ye (L':=[]) [3,1,0,1,3,1,2] O O O O ?_;refine AS fun _ ga Ca g E=>?_;have ka:=Ua ka;have h:=Uc h;have hN:=Ua hN;refine Yy ?_;refine TK [0,2,3,4] ?_;refine Qp (fun a ha=>?_);exact ⟨⟨b15,b4⟩,ha,(by first|exact E|exact E.swap),g,h,ka.lowx (Nat.le_refl _) (by intro j hj;simp at hj ⊢;omega),hN.sub (by intro j hj;simp at hj ⊢;omega),l15,l4⟩
   ·refine Zv (L':=[1,4,5,6]) [3,1,0,1,3,1,2] rfl rfl rfl ?_
    refine CN fun b15 w15 N15 l15 g E=>?_;have ka:=ka.new N15;have h:=h.grow (N15.g);have x15_3:=E.ne 0 1 rfl rfl rfl;have x15_2:=E.ne 0 2 rfl rfl rfl
    first
    | have hN:OwnN [b2,b3,b4] w.heap.size w15 [ta] (.slice (some ⟨b15,0,none⟩) 1 1):=Jc E.g0 l15 (ka.mono fun k hk _=>⟨⟨⟨hk.1.1,by have:=hk.1.2;simp at this ⊢;omega⟩,hk.2⟩,by have:=hk.1.2;simp at this;omega⟩) ⟨⟨l15,by simp;omega⟩,Xa E.g0⟩
    | have hN:OwnN [b2,b3] w.heap.size w15 [ta] (.slice (some ⟨b15,0,none⟩) 1 1):=Jc E.g0 l15 (ka.mono fun k hk _=>⟨⟨⟨hk.1.1,by have:=hk.1.2;simp at this ⊢;omega⟩,hk.2⟩,by have:=hk.1.2;simp at this;omega⟩) ⟨⟨l15,by simp;omega⟩,Xa E.g0⟩
    refine Yj ((N15.g).only _) ?_;refine Uza 1 5 O O ?_ ?_
    ·refine Zv (L':=[4,5,6]) [3,1,0,1,3,1,2] rfl rfl rfl ?_
     refine CL (Vw h) ?_;rintro v13 w13 ⟨rfl,g13⟩;refine ⟨fun _=>g13,?_⟩;have g:=gtg g g13;replace E:=E.grow g13;have ka:=ka.grow (g13);have h:=h.grow (g13);have hN:=hN.grow (g13);refine Yj ((g13).only _) ?_;refine Zx 4 O O (fun _=>Uv [_,_,_,_,_,_,_,_,_] Zt O Xp (Xn (Zd O) (Xn (Zd O) (Vk))) O) (Zu 5 O O ?_);refine Zv (L':=[6]) [3,1,0,1,3,1,2] O O O ?_;refine AN fun b4 _ N4 l4 g E=>?_;have ka:=ka.new N4;have hN:=hN.new N4;have h:=h.grow (N4.g);have x4_15:=E.ne 0 1 rfl rfl rfl;have x4_3:=E.ne 0 2 rfl rfl rfl;have x4_2:=E.ne 0 3 rfl rfl rfl;refine Yj ((N4.g).only _) ?_;refine Zu 6 O O ?_;refine Ye (L':=[]) [3,1,0,1,3,1,2] O O O O ?_;refine AS fun _ ga Ca g E=>?_;have ka:=Ua ka;have h:=Uc h;have hN:=Ua hN;refine Yy ?_;refine TK [0,2,3,4] ?_;refine Qp (fun a ha=>?_);exact ⟨⟨b15,b4⟩,ha,(by first|exact E|exact E.swap),g,h,ka.lowx (Nat.le_refl _) (by intro j hj;simp at hj ⊢;omega),hN.sub (by intro j hj;simp at hj ⊢;omega),l15,l4⟩
    ·refine Zv (L':=[1,4,6]) [3,1,0,1,3,1,2] rfl rfl rfl ?_
     refine AN fun b4 _ N4 l4 g E=>?_;have ka:=ka.new N4;have hN:=hN.new N4;have h:=h.grow (N4.g);have x4_15:=E.ne 0 1 rfl rfl rfl;have x4_3:=E.ne 0 2 rfl rfl rfl;have x4_2:=E.ne 0 3 rfl rfl rfl;refine Yj ((N4.g).only _) ?_;refine Zu 1 O O ?_;refine Zv (L':=[4,6]) [3,1,0,1,3,1,2] O O O ?_;refine CL (Vw h) ?_;rintro v13 w13 ⟨rfl,g13⟩;refine ⟨fun _=>g13,?_⟩;have g:=gtg g g13;replace E:=E.grow g13;have ka:=ka.grow (g13);have h:=h.grow (g13);have hN:=hN.grow (g13);refine Yj ((g13).only _) ?_;refine Zx 4 O O (fun _=>Uv [_,_,_,_,_,_,_,_,_] Zt O Xp (Xn (Zd O) (Xn (Zd O) (Vk))) O) (Zu 6 O O ?_);refine Ye (L':=[]) [3,1,0,1,3,1,2] O O O O ?_;refine AS fun _ ga Ca g E=>?_;have ka:=Ua ka;have h:=Uc h;have hN:=Ua hN;refine Yy ?_;refine TK [0,2,3,4] ?_;refine Qp (fun a ha=>?_);exact ⟨⟨b15,b4⟩,ha,(by first|exact E|exact E.swap),g,h,ka.lowx (Nat.le_refl _) (by intro j hj;simp at hj ⊢;omega),hN.sub (by intro j hj;simp at hj ⊢;omega),l15,l4⟩
   ·refine Zv (L':=[1,3,4,6]) [3,1,0,1,3,1,2] rfl rfl rfl ?_
    refine AN fun b4 _ N4 l4 g E=>?_;have ka:=ka.new N4;have h:=h.grow (N4.g);have x4_3:=E.ne 0 1 rfl rfl rfl;have x4_2:=E.ne 0 2 rfl rfl rfl;refine Yj ((N4.g).only _) ?_;refine Uza 1 3 O O ?_ ?_
    ·refine Zv (L':=[3,4,6]) [3,1,0,1,3,1,2] rfl rfl rfl ?_
     refine CL (Vw h) ?_;rintro v13 w13 ⟨rfl,g13⟩;refine ⟨fun _=>g13,?_⟩;have g:=gtg g g13;replace E:=E.grow g13;have ka:=ka.grow (g13);have h:=h.grow (g13);refine Yj ((g13).only _) ?_;refine Zu 3 O O ?_;refine Zv (L':=[4,6]) [3,1,0,1,3,1,2] O O O ?_;refine CN fun b15 w15 N15 l15 g E=>?_;have ka:=ka.new N15;have h:=h.grow (N15.g);have x15_4:=E.ne 0 1 rfl rfl rfl;have x15_3:=E.ne 0 2 rfl rfl rfl;have x15_2:=E.ne 0 3 rfl rfl rfl
     first
     | have hN:OwnN [b2,b3,b4] w.heap.size w15 [ta] (.slice (some ⟨b15,0,none⟩) 1 1):=Jc E.g0 l15 (ka.mono fun k hk _=>⟨⟨⟨hk.1.1,by have:=hk.1.2;simp at this ⊢;omega⟩,hk.2⟩,by have:=hk.1.2;simp at this;omega⟩) ⟨⟨l15,by simp;omega⟩,Xa E.g0⟩
     | have hN:OwnN [b2,b3] w.heap.size w15 [ta] (.slice (some ⟨b15,0,none⟩) 1 1):=Jc E.g0 l15 (ka.mono fun k hk _=>⟨⟨⟨hk.1.1,by have:=hk.1.2;simp at this ⊢;omega⟩,hk.2⟩,by have:=hk.1.2;simp at this;omega⟩) ⟨⟨l15,by simp;omega⟩,Xa E.g0⟩
     refine Yj ((N15.g).only _) ?_;refine Zx 4 O O (fun _=>Uv [_,_,_,_,_,_,_,_,_] Zt O Xp (Xn (Zd O) (Xn (Zd O) (Vk))) O) (Zu 6 O O ?_);refine Ye (L':=[]) [3,1,0,1,3,1,2] O O O O ?_;refine AS fun _ ga Ca g E=>?_;have ka:=Ua ka;have h:=Uc h;have hN:=Ua hN;refine Yy ?_;refine TK [0,2,3,4] ?_;refine Qp (fun a ha=>?_);exact ⟨⟨b15,b4⟩,ha,(by first|exact E|exact E.swap),g,h,ka.lowx (Nat.le_refl _) (by intro j hj;simp at hj ⊢;omega),hN.sub (by intro j hj;simp at hj ⊢;omega),l15,l4⟩
    ·refine Zv (L':=[1,4,6]) [3,1,0,1,3,1,2] rfl rfl rfl ?_
     refine CN fun b15 w15 N15 l15 g E=>?_;have ka:=ka.new N15;have h:=h.grow (N15.g);have x15_4:=E.ne 0 1 rfl rfl rfl;have x15_3:=E.ne 0 2 rfl rfl rfl;have x15_2:=E.ne 0 3 rfl rfl rfl
     first
     | have hN:OwnN [b2,b3,b4] w.heap.size w15 [ta] (.slice (some ⟨b15,0,none⟩) 1 1):=Jc E.g0 l15 (ka.mono fun k hk _=>⟨⟨⟨hk.1.1,by have:=hk.1.2;simp at this ⊢;omega⟩,hk.2⟩,by have:=hk.1.2;simp at this;omega⟩) ⟨⟨l15,by simp;omega⟩,Xa E.g0⟩
     | have hN:OwnN [b2,b3] w.heap.size w15 [ta] (.slice (some ⟨b15,0,none⟩) 1 1):=Jc E.g0 l15 (ka.mono fun k hk _=>⟨⟨⟨hk.1.1,by have:=hk.1.2;simp at this ⊢;omega⟩,hk.2⟩,by have:=hk.1.2;simp at this;omega⟩) ⟨⟨l15,by simp;omega⟩,Xa E.g0⟩
     refine Yj ((N15.g).only _) ?_;refine Zu 1 O O ?_;refine Zv (L':=[4,6]) [3,1,0,1,3,1,2] O O O ?_;refine CL (Vw h) ?_;rintro v13 w13 ⟨rfl,g13⟩;refine ⟨fun _=>g13,?_⟩;have g:=gtg g g13;replace E:=E.grow g13;have ka:=ka.grow (g13);have h:=h.grow (g13);have hN:=hN.grow (g13);refine Yj ((g13).only _) ?_;refine Zx 4 O O (fun _=>Uv [_,_,_,_,_,_,_,_,_] Zt O Xp (Xn (Zd O) (Xn (Zd O) (Vk))) O) (Zu 6 O O ?_);refine Ye (L':=[]) [3,1,0,1,3,1,2] O O O O ?_;refine AS fun _ ga Ca g E=>?_;have ka:=Ua ka;have h:=Uc h;have hN:=Ua hN;refine Yy ?_;refine TK [0,2,3,4] ?_;refine Qp (fun a ha=>?_);exact ⟨⟨b15,b4⟩,ha,(by first|exact E|exact E.swap),g,h,ka.lowx (Nat.le_refl _) (by intro j hj;simp at hj ⊢;omega),hN.sub (by intro j hj;simp at hj ⊢;omega),l15,l4⟩
  ·rintro ⟨b15,b4⟩ wj3 ⟨E,g,h,ka,hN,l15,l4⟩
   have u1:=E.ne 1 2 rfl rfl rfl;have u2:=E.ne 1 3 rfl rfl rfl;have u3:=E.ne 0 1 rfl rfl rfl;have u4:=E.ne 0 2 rfl rfl rfl;have u5:=E.ne 0 3 rfl rfl rfl;refine AU ?_;refine CL (Zxa [46] (by decide) h) ?_;rintro _ _ ⟨rfl,h,ga⟩;refine RC fun g E=>?_;have ka:=ka.gtp ga;have hN:=hN.gt ga rfl;refine IF (fun h2=>?_) fun h2=>?_
   ·have e2:isQ l T [46]=true:=h2
    rw [e2] at h he;simp only [cond_true] at h he;have n3:=(Xv e2 (by decide)).num hTi;have hTa:=(Xv e2 (by decide) hTi).1;refine AS fun _ ga Ca g E=>?_;have ka:=Ua ka;have h:=Uc h;have hN:=Ua hN;refine AU ?_;refine CL (Qfa h) ?_;rintro _ _ ⟨rfl,h,ga⟩;refine RC fun g E=>?_;have ka:=ka.gtp ga;have hN:=hN.gt ga rfl;refine AS fun _ ga Ca g E=>?_;have ka:=Ua ka;have h:=Uc h;have hN:=Ua hN;refine AS fun _ ga Ca g E=>?_;have ka:=Ua ka;have h:=Uc h;have hN:=Ua hN;refine SK [0,2,3] ?_;refine Ze (fun a ha=>?_);have n9:=(Qce (l:=l) (adv T)).num hTa;have kN:KdX w.heap.size [b2,b3] _ _ _:=OwnK.kd (hN.sub (Y:=[b2,b3]) (by intro j hj;simp at hj ⊢;omega)) fun b hb=>hb;exact ⟨(f',mkN 28 (nameQ l (adv T)).1 0 (offQ l sz T) [ta],(nameQ l (adv T)).2),ha,⟨⟨h,he,by omega,by omega,_,_,E.g2,kN⟩,g⟩,(Zs (blkE E.g3) (Zz _)),by show f'<f'+1;omega⟩
   have e2:isQ l T [46]=false:=h2;rw [e2] at h he;simp only [cond_false] at h he;refine AU ?_;refine CL (Zxa [91] (by decide) h) ?_;rintro _ _ ⟨rfl,h,ga⟩;refine RC fun g E=>?_;have ka:=ka.gtp ga;have hN:=hN.gt ga rfl;refine IF (fun h3=>?_) fun h3=>?_
   ·have e3:isQ l T [91]=true:=h3
    rw [e3] at h he;simp only [cond_true] at h he;have n4:=(Xv e3 (by decide)).num hTi;have hTa:=(Xv e3 (by decide) hTi).1;refine AS fun _ ga Ca g E=>?_;have ka:=Ua ka;have h:=Uc h;have hN:=Ua hN;refine AU ?_;refine Xu (gtP n0) [3,0,3,1,1,2,3,2] [0,1,0,4,12,31,63,127] mix (by kernel_rfl) [0,1,2,3,4,5,6,7] O ?_;have g:=gtd g;replace E:=E.dr;have ka:=ka.grow (G.drew _);have h:=h.grow (G.drew _);have hN:=hN.grow (G.drew _);refine Zx 0 O O (fun _=>Zn Zg (Zd O)) (Wh 1 O O (fun w1 hx=>Zw Zf (Zd O) (fun _=>(E.g0.gt hx O).at_ O)) (Zx 2 O O (fun _=>Zl (Zd O)) (Zu 3 O O ?_)));refine Zv (L':=[4,5,6,7]) [3,0,3,2,1,2,3,2] O O O ?_;refine CL (PkN.to (K.ex 1 (by omega)) [b2,b3,b4,b15] h (by omega) (E.ltm (by simp [selB])) g.size) ?_;rintro v32 w32 ⟨⟨p32,c32,rfl,q32,k32⟩,h,g32⟩;refine ⟨nw1,?_⟩;have g:=g.trans g32;replace E:=E.gt g32 rfl;have ka:=ka.gtp g32;have hN:=hN.gt g32 rfl;refine Yj (g32) ?_;refine Zu 4 O O ?_;refine Zv (L':=[5,6,7]) [3,0,3,2,1,2,3,2] O O O ?_;refine CN fun _ _ N33 _ g E=>?_;have ka:=ka.new N33;have k32:=k32.new N33;have hN:=hN.new N33;have h:=h.grow (N33.g);have x33_15:=E.ne 0 2 rfl rfl rfl;refine Yj (GT.of_g (N33.g)) ?_;refine Zu 5 O O ?_;refine Ye (L':=[6,7]) [3,0,3,2,1,2,3,2] O O O O ?_;have hN:=hN.sub (Y:=[b2,b3,b4]) (by intro j hj;simp at hj ⊢;omega);have hOo:=hN;refine Xx O Zc Zt O (Zd O) hN (Zd O) O E.g0.row (Ql k32 q32 (by intro j hj;simp at hj ⊢;omega) (fun j hj=>by obtain rfl:b15=j:=(by injection hj);simp)) (by simp) (by have:=g.size;omega) ⟨by have:=g.size;omega,by have q2:=E.g4.lt;have q3:=E.g3.lt;have q4:=E.g1.lt;simp;omega⟩ ?_;intro a34 c34 w34 hN hg34
    replace E:=E.sel [false,true,false,true,true];replace E:=E.keepX hg34 hOo.ne (by simp [selB]);have g:=Ww g hg34 (fun k hk=>hOo.ge k hk);have h:=h.keepO hg34 hOo;refine Yy ?_;refine Zx 6 O O (fun _=>Zn Zg (Zd O)) (Zu 7 O O ?_);refine Ye (L':=[]) [3,0,3,2,1,2,3,2] O O O O ?_;refine AS fun _ ga Ca g E=>?_;have h:=Uc h;have hN:=Ua hN;refine Yy ?_;refine TK [0,2,3,4] ?_;refine AU ?_;refine CL (Wj [93] (by decide) h) ?_;rintro _ _ ⟨rfl,h,ga⟩;refine RC fun g E=>?_;have hN:=hN.gt ga rfl;refine AS fun _ ga Ca g E=>?_;have h:=Uc h;have hN:=Ua hN;refine SK [0,2,3] ?_;refine Ze (fun a ha=>?_);have n9:=(X.ex 1 (adv T)).le.num hTa;have n10:=(Uy (l:=l) (s:=[93]) (by decide) (x.ex 1 (adv T)).2).num (X.ex 1 (adv T) hTa).1;have kN:KdX w.heap.size [b2,b3] _ _ _:=OwnK.kd (hN.sub (Y:=[b2,b3]) (by intro j hj;simp at hj ⊢;omega)) fun b hb=>hb;exact ⟨(f',mkN 29 [] 0 (offQ l sz T) [ta,(x.ex 1 (adv T)).1],takeQ l [93] (x.ex 1 (adv T)).2),ha,⟨⟨h,he,by omega,by omega,_,_,E.g1,kN⟩,g⟩,(Zs (blkE E.g2) (Zz _)),by show f'<f'+1;omega⟩
   have e3:isQ l T [91]=false:=h3;rw [e3] at h he;simp only [cond_false] at h he;refine AU ?_;refine CL (Zxa [40] (by decide) h) ?_;rintro _ _ ⟨rfl,h,ga⟩;refine RC fun g E=>?_;have ka:=ka.gtp ga;have hN:=hN.gt ga rfl;refine IF (fun h4=>?_) fun h4=>?_
   ·have e4:isQ l T [40]=true:=h4
    rw [e4] at h he;simp only [cond_true] at h he;have n5:=(Xv e4 (by decide)).num hTi;have hTa:=(Xv e4 (by decide) hTi).1;refine AS fun _ ga Ca g E=>?_;have ka:=Ua ka;have h:=Uc h;have hN:=Ua hN;refine AU ?_;refine CL (Una [41] h) ?_;rintro _ _ ⟨rfl,ga⟩;refine RC fun g E=>?_;have ka:=Uk ka;have h:=Uk h;have hN:=Uk hN;refine IF (fun h5=>?_) fun h5=>?_
    ·have e5:isQ l (adv T) [41]=false:=by simpa using h5
     refine AU ?_;refine Xu (gtP n0) [3,0,3,1,1,2,3,2] [0,1,0,4,12,31,63,127] mix (by kernel_rfl) [0,1,2,3,4,5,6,7] O ?_;have g:=gtd g;replace E:=E.dr;have ka:=ka.grow (G.drew _);have h:=h.grow (G.drew _);have hN:=hN.grow (G.drew _);refine Zx 0 O O (fun _=>Zn Zg (Zd O)) (Wh 1 O O (fun w1 hx=>Zw Zf (Zd O) (fun _=>(E.g0.gt hx O).at_ O)) (Zx 2 O O (fun _=>Zl (Zd O)) (Zu 3 O O ?_)));refine Zv (L':=[4,5,6,7]) [3,0,3,2,1,2,3,2] O O O ?_;refine CL (PkN.to (K.ex 1 (by omega)) [b2,b3,b4,b15] h (by omega) (E.ltm (by simp [selB])) g.size) ?_;rintro v48 w48 ⟨⟨p48,c48,rfl,q48,k48⟩,h,g48⟩;refine ⟨nw1,?_⟩;have g:=g.trans g48;replace E:=E.gt g48 rfl;have ka:=ka.gtp g48;have hN:=hN.gt g48 rfl;refine Yj (g48) ?_;refine Zu 4 O O ?_;refine Zv (L':=[5,6,7]) [3,0,3,2,1,2,3,2] O O O ?_;refine CN fun _ _ N49 _ g E=>?_;have ka:=ka.new N49;have k48:=k48.new N49;have hN:=hN.new N49;have h:=h.grow (N49.g);have x49_15:=E.ne 0 2 rfl rfl rfl;refine Yj (GT.of_g (N49.g)) ?_;refine Zu 5 O O ?_;refine Ye (L':=[6,7]) [3,0,3,2,1,2,3,2] O O O O ?_;have hN:=hN.sub (Y:=[b2,b3,b4]) (by intro j hj;simp at hj ⊢;omega);have hOo:=hN;refine Xx O Zc Zt O (Zd O) hN (Zd O) O E.g0.row (Ql k48 q48 (by intro j hj;simp at hj ⊢;omega) (fun j hj=>by obtain rfl:b15=j:=(by injection hj);simp)) (by simp) (by have:=g.size;omega) ⟨by have:=g.size;omega,by have q2:=E.g4.lt;have q3:=E.g3.lt;have q4:=E.g1.lt;simp;omega⟩ ?_;intro a50 c50 w50 hN hg50;replace E:=E.sel [false,true,false,true,true];replace E:=E.keepX hg50 hOo.ne (by simp [selB]);have g:=Ww g hg50 (fun k hk=>hOo.ge k hk);have h:=h.keepO hg50 hOo;refine Yy ?_;refine Zx 6 O O (fun _=>Zn Zg (Zd O)) (Zu 7 O O ?_)
     refine Ye (L':=[]) [3,0,3,2,1,2,3,2] O O O O ?_;refine AS fun _ ga Ca g E=>?_;have h:=Uc h;have hN:=Ua hN;refine Yy ?_;refine TK [0,2,3,4] ?_;refine AU ?_;have hnd2:=E.1;refine Xo (fun (y:Nat×List Nd×PSt) u2=>match y with|⟨f2,acc,U⟩=>(PR l sz n0 b tp tc U u2∧argL l x f2 acc U=argQ l x ta (adv T)∧remQ l U≤f2∧acc.length+f2≤l.length+3∧remQ l U≤remQ l (x.ex 1 (adv T)).2∧∃ s,Blk u2 b4 Ys (ndCells (mkN 30 [] 0 (offQ l sz T) []) s)∧OwnN [b2,b3,b4] w.heap.size u2 acc s)∧GT mutP n0 w u2) _ [(0,True,_),(2,True,_),(3,True,_),(4,True,_)] (fun (y:Nat×List Nd×PSt)=>match y with|⟨f2,acc,U⟩=>[]) (fun (y:Nat×List Nd×PSt)=>match y with|⟨f2,acc,U⟩=>f2) ((l.length+1,[ta,(x.ex 1 (adv T)).1],(x.ex 1 (adv T)).2)) ⟨⟨h,by unfold argQ;rw [e5];rfl,Ufa,by simp;omega,Nat.le_refl _,_,E.g0,hN.sub (by intro j hj;simp at hj ⊢;omega)⟩,g⟩ (Zs (blkE E.g2) (Zs (blkE E.g1) (Zz _))) (Za O (Za O (Za O (Za O (Zo _))))) ?_;clear E;rintro ⟨f2,acc,U⟩ u2 ⟨hI2,gl2⟩ ⟨B2,B3,_⟩;replace B2:Blk _ _ _ _:=B2;replace B3:Blk _ _ _ _:=B3;have g:=gl2;obtain ⟨h,he2,hf2,hac,hrm2,s2,B4,hN⟩:=hI2;obtain ⟨sa,sc,rfl⟩:=hN.slice;have hUi:=h.hi;have hOlt:=hN.lt;have n9:=(X.ex 1 (adv T)).le.num hTa;have E:=Jo (L:=[(b4,_,_),(b3,_,_),(b2,_,_)]) hnd2 ⟨B4,B3,B2,trivial⟩ rfl;refine AU ?_;refine CL (Zxa [44] (by decide) h) ?_;rintro _ _ ⟨rfl,h,ga⟩;refine RC fun g E=>?_;have hN:=hN.gt ga rfl;refine IF (fun h6=>?_) fun h6=>?_
     ·have e6:isQ l U [44]=true:=h6
      rw [e6] at h;simp only [cond_true] at h;have hp6:=Qd e6 (by decide);have hOlt:=hN.lt;obtain ⟨f2',rfl⟩:∃ f',f2=f'+1:=⟨f2-1,by omega⟩;rw [argL,e6,cond_true] at he2;have n6:=(Xv e6 (by decide)).num hUi;have n7:=(X.ex 1 (adv U)).le.num h.hi;refine AU ?_;refine Xu (gtP n0) [3,0,3,1,1,2,3,2] [0,1,0,4,12,31,63,127] mix (by kernel_rfl) [0,1,2,3,4,5,6,7] O ?_;have g:=gtd g;replace E:=E.dr;have ka:=ka.grow (G.drew _);have h:=h.grow (G.drew _);have hN:=hN.grow (G.drew _);refine Zx 0 O O (fun _=>Zn Zg (Zd O)) (Wh 1 O O (fun w1 hx=>Zw Zf (Zd O) (fun _=>(E.g0.gt hx O).at_ O)) (Zx 2 O O (fun _=>Zl (Zd O)) (Zu 3 O O ?_)));refine Zv (L':=[4,5,6,7]) [3,0,3,2,1,2,3,2] O O O ?_;refine CL (PkN.to (K.ex 1 (by omega)) [b2,b3,b4] h (by omega) (E.ltm (by simp [selB])) g.size) ?_;rintro v57 w57 ⟨⟨p57,c57,rfl,q57,k57⟩,h,g57⟩;refine ⟨nw1,?_⟩;have g:=g.trans g57;replace E:=E.gt g57 rfl;have hN:=hN.gt g57 rfl;refine Yj (g57) ?_;refine Zu 4 O O ?_;refine Zv (L':=[5,6,7]) [3,0,3,2,1,2,3,2] O O O ?_;refine CN fun _ _ N58 _ g E=>?_;have k57:=k57.new N58;have hN:=hN.new N58;have h:=h.grow (N58.g);refine Yj (GT.of_g (N58.g)) ?_;refine Zu 5 O O ?_;refine Ye (L':=[6,7]) [3,0,3,2,1,2,3,2] O O O O ?_;have hN:=hN.sub (Y:=[b2,b3,b4]) (by intro j hj;simp at hj ⊢;omega);have hOo:=hN;refine Xx O Zc Zt O (Zd O) hN (Zd O) O E.g0.row (Ql k57 q57 (by intro j hj;simp at hj ⊢;omega) (fun j hj=>.inr (hOlt j hj))) (by simp;omega) (by have:=g.size;omega) ⟨by have:=g.size;omega,by have q2:=E.g3.lt;have q3:=E.g2.lt;have q4:=E.g1.lt;simp;omega⟩ ?_;intro a59 c59 w59 hN hg59;replace E:=E.sel [false,true,true,true];replace E:=E.keepX hg59 hOo.ne (by simp [selB])
      have g:=Ww g hg59 (fun k hk=>hOo.ge k hk);have h:=h.keepO hg59 hOo;refine Yy ?_;refine Zx 6 O O (fun _=>Zn Zg (Zd O)) (Zu 7 O O ?_);refine Ye (L':=[]) [3,0,3,2,1,2,3,2] O O O O ?_;refine AS fun _ ga Ca g E=>?_;have h:=Uc h;have hN:=Ua hN;refine Yy ?_;refine TK [0,2,3,4] ?_;refine Qp (fun a ha=>?_);exact ⟨(f2',acc++[(x.ex 1 (adv U)).1],(x.ex 1 (adv U)).2),ha,⟨⟨h,he2,by omega,by simp;omega,by omega,_,E.g0,hN.sub (by intro j hj;simp at hj ⊢;omega)⟩,g⟩,(Zs (blkE E.g2) (Zs (blkE E.g1) (Zz _))),by show f2'<f2'+1;omega⟩
     have e6:isQ l U [44]=false:=h6;rw [e6] at h;simp only [cond_false] at h
     have he2:(acc,U)=argQ l x ta (adv T):=by
      rw [← he2]
      cases f2 with
      | zero=>rfl
      | succ f'=>rw [argL,e6];rfl
     refine AU ?_;refine CL (Wj [41] (by decide) h) ?_;rintro _ _ ⟨rfl,h,ga⟩;refine RC fun g E=>?_;have hN:=hN.gt ga rfl;refine AS fun _ ga Ca g E=>?_;have h:=Uc h;have hN:=Ua hN;refine SK [0,2,3] ?_;refine Ze (fun a ha=>?_);rw [← he2] at he;have n10:=(Uy (l:=l) (s:=[41]) (by decide) U).num hUi;have kN:KdX w.heap.size [b2,b3] _ _ _:=OwnK.kd (hN.sub (Y:=[b2,b3]) (by intro j hj;simp at hj ⊢;omega)) fun b hb=>hb;exact ⟨(f',mkN 30 [] 0 (offQ l sz T) acc,takeQ l [41] U),ha,⟨⟨h,he,by omega,by omega,_,_,E.g1,kN⟩,g⟩,(Zs (blkE E.g2) (Zz _)),by show f'<f'+1;omega⟩
    have e5:isQ l (adv T) [41]=true:=by simpa using h5
    refine AU ?_;refine CL (Wj [41] (by decide) h) ?_;rintro _ _ ⟨rfl,h,ga⟩;refine RC fun g E=>?_;have ka:=ka.gtp ga;have hN:=hN.gt ga rfl;refine AS fun _ ga Ca g E=>?_;have ka:=Ua ka;have h:=Uc h;have hN:=Ua hN;refine SK [0,2,3] ?_;refine Ze (fun a ha=>?_);have ea:argQ l x ta (adv T)=([ta],adv T):=by unfold argQ;rw [e5];rfl
    rw [ea] at he;have n10:=(Uy (l:=l) (s:=[41]) (by decide) (adv T)).num hTa;have kN:KdX w.heap.size [b2,b3] _ _ _:=OwnK.kd (hN.sub (Y:=[b2,b3]) (by intro j hj;simp at hj ⊢;omega)) fun b hb=>hb;exact ⟨(f',mkN 30 [] 0 (offQ l sz T) [ta],takeQ l [41] (adv T)),ha,⟨⟨h,he,by omega,by omega,_,_,E.g2,kN⟩,g⟩,(Zs (blkE E.g3) (Zz _)),by show f'<f'+1;omega⟩
   have e4:isQ l T [40]=false:=h4;rw [e4] at h he;simp only [cond_false] at h he;refine AS fun _ ga Ca g E=>?_;have ka:=Ua ka;have h:=Uc h;refine RTN ?_;rw [← he];exact ⟨Zr rfl (ka.kdN (Nat.le_refl _)),h,g⟩
 replace h1:(!T.bad)=false:=h1
 have he:(ta,T)=priQ l sz x S:=by
  rw [← he]
  cases f with
  | zero=>rfl
  | succ f'=>rw [priL,h1];rfl
 refine AS fun _ ga Ca g E=>?_;have ka:=Ua ka;have h:=Uc h;refine RTN ?_;rw [← he];exact ⟨Zr rfl (ka.kdN (Nat.le_refl _)),h,g⟩
end
end Go.Rk
