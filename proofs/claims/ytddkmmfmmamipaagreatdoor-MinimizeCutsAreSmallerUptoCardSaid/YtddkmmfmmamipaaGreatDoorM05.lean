/- Merged texts. Conditions: each text's own. -/
import Derived.Test.YtddkmmfmmamipaaGreatDoorM02
import Derived.Test.YtddkmmfmmamipaaGreatDoorM04
import Derived.ChangeSame
import Derived.OpenShut
import Derived.Test.YtddkmmfmmamipaaGreatDoorM01
import Derived.Below
import Derived.Test.YtddkmmfmmamipaaGreatDoorCards
import Derived.Test.YtddkmmfmmamipaaGreatDoorTie
import Derived.WalkKit
import Derived.ProofKit
import Derived.Deep.DeepHandedRow
import Derived.Deep.DeepWitnessRowRef
import Derived.Lib.LaidTab
import Derived.Stop.LaidErr
import Derived.ShutString
import Derived.ChangeMaps5
import Derived.Test.YtddkmmfmmamipaaGreatDoorRows
import Derived.Deep.Slices
import Derived.Carry
import Derived.Test.YtddkmmfmmamipaaGreatDoorM03
set_option linter.unusedSimpArgs false
set_option linter.unusedVariables false
set_option maxHeartbeats 16000000
set_option maxRecDepth 100000
open Array renaming getElem?_eq_some_iff→Dv,getElem?_toList→Eb
open Bool renaming xor→Ap,and_eq_true→DF,false_ne_true→Q3
open Go renaming World→Ad,TypeId→Aw,PanicEntry→Bd,Operand→A7,Program→BH,Value→Ak
open Go.Result renaming andThen_ok→Dt
open Go.Value renaming slice→Ij
open Go.World renaming block_lt_of_cell?→Ez,cell?_of_block→To
open List renaming range→Cl,forall_mem_cons→Cr,length_append→CW,length_map→DV,map_cons→EG,mem_cons→E1,getElem_mem→FB,length_cons→FS,getElem_map→Gg,mem_cons_of_mem→Gx,map_nil→Gz,mem_range→GB,drop_zero→G0,mem_cons_self→Hf,map_append→HJ,nil_append→HA,drop_append→HN,drop_of_length_le→HZ,take_append→Ih,take_of_length_le→Ic,append_assoc→Ik,map_congr_left→It,not_mem_nil→IG,flatMap_append→Jb,getD_eq_getElem?_getD→Jo,getElem?_eq_getElem→I4,getElem?_map→Jm,take_zero→J9,mem_map→Ke,sum_cons→LD,nodup_cons→Lz,length_take→MM,map_toArray→Ns,map_map→NI,map_set→Ny,forall_mem_nil→RZ,take_succ_eq_append_getElem→QQ,getElem?_eq_none→RN,take_succ_cons→Rh,drop_succ_cons→RQ,getElem?_cons_zero→XD,getElem?_cons_succ→bN,mem_singleton→Zm
open Nat renaming le_trans→AN,le_refl→Bh,beq→BM,eq_of_beq_eq_true→CQ,zero_add→Dg,lt_of_lt_of_le→Ei,zero_le→Fe,ne_of_lt→Fy,lt_of_lt_of_eq→FP,blt→F9
open Option renaming map_some→Ka,map_eq_some_iff→QV
open Decidable renaming decide→Ae
namespace Go.Proofs
end Go.Proofs
namespace Go.Rk
open Go.Proofs
open Go Go.RowKit
set_option maxHeartbeats 2000000
def Gb(lo:Nat)(X:List Nat)(w:Ad)(l:List Bu)(v:Ak):Prop:=∃ p c,v = .slice p l.length c∧(0<l.length→∃ b o cs fr,p=some ⟨b,o,none⟩∧(lo≤b∧b∉X)∧w.heap[b]? = some (.cells cs 24 fr)∧Cv w b o (l.flatMap Ea))
section
variable {lo lo' n0 j b:Nat} {X:List Nat} {w w':Ad} {l:List Bu} {v:Ak}
theorem Gb.ac(h:Gb lo X w l v){X':List Nat}(hs:∀ b,b<w.heap.size→(∃ cs fr,w.heap[b]? = some (.cells cs 24 fr))→lo≤b→b∉X→b∉X'∧w'.heap[b]? = w.heap[b]?):Gb lo X' w' l v:=by
 obtain ⟨p,c,rfl,h⟩:=h;refine ⟨p,c,rfl,fun h0=>?_⟩;obtain ⟨b,o,cs,fr,rfl,hb,hh,hR⟩:=h h0;obtain ⟨q1,q2⟩:=hs b (Dv.1 hh).1 ⟨cs,fr,hh⟩ hb.1 hb.2;exact ⟨b,o,cs,fr,rfl,⟨hb.1,q1⟩,q2.trans hh,fun i v hi=>(To q2).trans (hR i v hi)⟩
theorem Gb.a(h:Gb lo X w l v)(g:G w w'):Gb lo X w' l v:=h.ac fun b aa _ _ hx=>⟨hx,g.block aa⟩
theorem Gb.gt(h:Gb lo X w l v)(g:AP DQ n0 w w'):Gb lo X w' l v:=h.ac fun b aa ⟨cs,fr,hh⟩ _ hx=>⟨hx,g.block b aa (.inr fun ⟨ab,f',ac,h1,h2⟩=>by
 rw [hh] at h1;injection h1 with h1;injection h1 with _ h1;subst h1;exact absurd h2 Q3)⟩
theorem Gb.A(h:Gb lo X w l v)(hg:w.grownBy w' (some j))(hj:j<lo∨j∈X):Gb lo X w' l v:=h.ac fun b aa _ hl hx=>⟨hx,hg.block b aa fun e=>by
 injection e with e;subst e;rcases hj with hj|hj;omega;exact hx hj⟩
theorem Gb.af{e:Aw}{xs:List Ak}(h:Gb lo X w l v)(hg:w.grownBy w' (some j))(hB:Av w j e xs)(he:BM e 24=false):Gb lo X w' l v:=h.ac fun b aa ⟨cs,fr,hh⟩ hl hx=>⟨hx,hg.block b aa fun q=>by
 injection q with q;subst q;unfold Av at hB;rw [hB] at hh;injection hh with hh;injection hh with _ hh;subst hh;simp at he⟩
theorem Gb.new{e:Aw}{xs:List Ak}(h:Gb lo X w l v)(N:Ks w w' b e xs):Gb lo (b::X) w' l v:=h.ac fun b' aa _ hl hx=>⟨fun hm=>by
 have:=N.j;rcases E1.1 hm with q|q;omega;exact hx q,N.g.block aa⟩
theorem Gb.row(h:Gb lo X w l v):Qs w l v:=by
 obtain ⟨p,c,rfl,h⟩:=h;exact ⟨p,c,rfl,fun h0=>by obtain ⟨b,o,cs,fr,e,_,hh,hR⟩:=h h0;exact ⟨b,o,cs,fr,e,hh,hR⟩⟩
theorem Qs.x(h:Qs w l v):Gb 0 [] w l v:=by
 obtain ⟨p,c,rfl,h⟩:=h;exact ⟨p,c,rfl,fun h0=>by obtain ⟨b,o,cs,fr,e,hh,hR⟩:=h h0;exact ⟨b,o,cs,fr,e,⟨Fe _,IG⟩,hh,hR⟩⟩
theorem Gy:Gb lo X w [] (.slice none 0 0):=⟨none,0,rfl,fun h=>absurd h Cb⟩
theorem E4{k c:Nat}{xs:List Ak}(h:Av w k 24 xs)(hx:xs=l.flatMap Ea)(hl:lo≤k):Gb lo [] w l (.slice (some ⟨k,0,none⟩) l.length c):=⟨_,_,rfl,fun _=>⟨k,0,_,_,rfl,⟨hl,IG⟩,h,hx▸h.row⟩⟩
theorem YZ(h:w.ownsRow lo 24 2 v l.length (l.flatMap Ea)):Gb lo [] w l v:=by
 obtain ⟨p,c,rfl,_⟩:=Im h;refine ⟨p,c,rfl,fun h0=>?_⟩;obtain ⟨g,c',cs,hv,hg,hB,_⟩:=OZ h h0;obtain ⟨g2,c2,aa,_,hR,_⟩:=Ly h h0;injection hv with e1 _ _;rw [e1] at aa;injection aa with e2 _ _;injection e2 with e2;injection e2 with e2;subst e2;exact ⟨g,0,_,_,e1,⟨hg,IG⟩,hB,hR⟩
theorem Qs.at(h:Qs w l (.slice (some ⟨j,b,none⟩) l.length lo))(i:Nat)(hi:i<l.length):Cv w j (b+i*2) (Ea l[i]):=by
 obtain ⟨p,c,hv,h⟩:=h;injection hv with e1 _ _;subst e1;obtain ⟨b',o,cs,fr,e,_,hR⟩:=h O;injection e with e;injection e with e1 e2;subst e1;subst e2;exact Ow (f:=Ea) (z:=2) P5 hR hi
end
def Yy(lo:Nat)(r:List Bu×Bu×Bool)(v:Ak)(w:Ad):Prop:=∃ l,v = .tuple #[l,D3 r.2.1,.bool r.2.2]∧Gb lo [] w r.1 l
theorem kT(y:Bu)(s:List UInt8)(w:Ad):Bx Aj 141 #[D3 y,Co s] w fun v w'=>Yy w.heap.size (Dw y s) v w'∧G w w':=by
 have g:=G.refl w;refine Cj 90 [0,1] Tryz.func141 ?_;refine CN fun _ _ _ _ g E=>?_;refine A1 fun b5 _ _ _ g E=>?_;refine R ?_;refine DA (fI _ _) (Do fun ae ag g E=>?_);refine Az (fun h1=>?_) fun h1=>?_;(try simp only [BJ] at h1);refine AS fun _ _ _ g E=>?_;refine AC ?_;refine ⟨?_,g⟩;unfold Dw;rw [h1];exact ⟨_,rfl,Gy⟩;refine A1 fun _ _ _ _ g E=>?_;refine A1 fun _ _ _ _ g E=>?_;refine A1 fun _ _ _ _ g E=>?_;refine AS fun _ _ _ g E=>?_;refine AS fun _ _ _ g E=>?_;refine AS fun _ _ _ g E=>?_;refine R ?_;refine' AZ [1,2,4,5,6,7,8,9,20] (fun af=>?y2) (kq ?n2)
 case y2 =>
  refine R ?_;refine BL [21,1,2,4,5,6,7,8,9,20] ?_;exact Al AX
 case n2 =>
  refine Az (fun h3=>?_) fun h3=>?_;have hk:y.c=8∨y.c=9:=by simpa using h3
  refine R ?_;refine DE (Ef (some b5)) [0,3,3,3,3,3,0,3,3,3,3,1,3] [0,0,2,6,14,30,62,126,254,510,30,1055,4095] CI Ai [0,1,2,3,4,5,6,7,8,9,10,11,12] U ?_;refine Ft fun g E=>?_;refine Bg 0 U U (fun w1 hx=>A2 Ci (H U) U (fun _=>(E.g2.A hx (fun h=>E.W 2 3 U U U (EM h))).row)) (Au 1 U U (fun _=>A9 (H U)) (Au 2 U U (fun _=>A9 (H U)) (GD (L':=[4,5,6,7,8,9,10,11,12]) 3 U U U U U (fun _=>A9 (H U)) (GD (L':=[5,6,7,8,9,10,11,12]) 4 U U U U U (fun _=>A9 (Am U id)) (GD (L':=[6,7,8,9,10,11,12]) 5 U U U U U (fun _=>AE TN (H U)) (JP (L':=[7,8,9,10,11,12]) 6 U U U U U (fun w1 hx=>AU Cd (Am U id) (fun _=>(E.g4.A hx (fun h=>E.W 4 3 U U U (EM h))).j U)) (GD (L':=[8,9,10,11,12]) 7 U U U U U (fun _=>GA (Am U id) Bl) (GD (L':=[9,10,11,12]) 8 U U U U U (fun _=>ES (Am U id) (Am U id)) (Au 9 U U (fun _=>Gv (H U) (Am U id)) (Au 10 U U (fun _=>Eu Bl) (AQ 11 U U ?_)))))))))));refine Br (L':=[12]) [0,3,3,3,3,3,0,3,3,3,3,2,3] U U U ?_;refine AS fun _ ad _ g E=>?_;refine Bs (ad) ?_;refine Au 12 U U (fun _=>Eu (H U)) (Dp [4,5,6,7] (FF (kq (DZ (KV (rs:=[.tmp 4,.cell 5 24,.tmp 6]) (vs:=[_,_,_]) U U (J7 U (HQ U Ci U (E.g3.row) (J7 U (HP)))) U ?_)))));refine ⟨?_,g⟩;unfold Dw;rw [h1];rcases hk with hk|hk;rw [hk];exact ⟨_,by simp [Hg,hk];rfl,Gy⟩;rw [hk];exact ⟨_,by simp [Hg,hk,Bool.or_assoc];rfl,Gy⟩;have hk:¬ (y.c=8∨y.c=9):=by simpa using h3
  have k8:Ae (y.c=8)=false:=by rw [CK];exact fun e=>hk (.inl e)
  have k9:Ae (y.c=9)=false:=by rw [CK];exact fun e=>hk (.inr e)
  refine Az (fun h4=>?_) fun h4=>?_;(try simp only [BJ] at h4);refine Az (fun h5=>?_) fun h5=>?_;(try simp only [BJ] at h5);refine R ?_;skip;refine IH [0,1,0,3,2,3] [true,true,false,true,true,true] [0,1,0,3,15,31] CI Ai ?_;refine Ft fun g E=>?_;have EC:=E;refine Ch fun _ _ _ _ g E=>?_;refine Jq U (A2 Ci (H U) U (fun _=>EC.g2.row)) ?_;refine AS fun _ _ _ g E=>?_;refine AC ?_;refine ⟨?_,g⟩;unfold Dw;simp only [k8,k9,Hg,h1,h3,h4,h5,A8,A0]
  first
  | exact ⟨_,rfl,Gy⟩
  | exact ⟨_,rfl,E4 (l:=[_]) (by first|assumption|exact E.g 0 rfl) rfl (by assumption)⟩
  | exact ⟨_,rfl,E4 (l:=[_,_]) (by first|assumption|exact E.g 0 rfl) rfl (by assumption)⟩
  refine R ?_;refine C9 [0,3,3,3,3,3,3,3,2,3] ?_;refine Ft fun g E=>?_;refine AS fun _ _ _ g E=>?_;refine AC ?_;refine ⟨?_,g⟩;unfold Dw;simp only [k8,k9,Hg,h1,h3,h4,h5,A8,A0]
  first
  | exact ⟨_,rfl,Gy⟩
  | exact ⟨_,rfl,E4 (l:=[_]) (by first|assumption|exact E.g 0 rfl) rfl (by assumption)⟩
  | exact ⟨_,rfl,E4 (l:=[_,_]) (by first|assumption|exact E.g 0 rfl) rfl (by assumption)⟩
  refine Az (fun h6=>?_) fun h6=>?_;(try simp only [BJ] at h6);refine Az (fun h7=>?_) fun h7=>?_;(try simp only [BJ] at h7);refine R ?_;skip;refine IH [3,1,0,3,2,3] [true,true,false,true,true,true] [0,1,0,3,15,31] CI Ai ?_;refine Ft fun g E=>?_;have EC:=E;refine Ch fun _ _ _ _ g E=>?_;refine Jq U (A2 Ci (H U) U (fun _=>EC.g2.row)) ?_;refine AS fun _ _ _ g E=>?_;refine AC ?_;refine ⟨?_,g⟩;unfold Dw;simp only [k8,k9,Hg,h1,h3,h4,h6,h7,A8,A0]
  first
  | exact ⟨_,rfl,Gy⟩
  | exact ⟨_,rfl,E4 (l:=[_]) (by first|assumption|exact E.g 0 rfl) rfl (by assumption)⟩
  | exact ⟨_,rfl,E4 (l:=[_,_]) (by first|assumption|exact E.g 0 rfl) rfl (by assumption)⟩
  refine R ?_;refine C9 [0,3,2,3] ?_;refine Ft fun g E=>?_;refine AS fun _ _ _ g E=>?_;refine AC ?_;refine ⟨?_,g⟩;unfold Dw;simp only [k8,k9,Hg,h1,h3,h4,h6,h7,A8,A0]
  first
  | exact ⟨_,rfl,Gy⟩
  | exact ⟨_,rfl,E4 (l:=[_]) (by first|assumption|exact E.g 0 rfl) rfl (by assumption)⟩
  | exact ⟨_,rfl,E4 (l:=[_,_]) (by first|assumption|exact E.g 0 rfl) rfl (by assumption)⟩
  refine Az (fun h8=>?_) fun h8=>?_;(try simp only [BJ] at h8);refine Az (fun h9=>?_) fun h9=>?_;(try simp only [BJ] at h9);refine R ?_;refine C9 [0,3,2,3] ?_;refine Ft fun g E=>?_;refine AS fun _ _ _ g E=>?_;refine AC ?_;refine ⟨?_,g⟩;unfold Dw;simp only [k8,k9,Hg,h1,h3,h4,h6,h8,h9,A8,A0]
  first
  | exact ⟨_,rfl,Gy⟩
  | exact ⟨_,rfl,E4 (l:=[_]) (by first|assumption|exact E.g 0 rfl) rfl (by assumption)⟩
  | exact ⟨_,rfl,E4 (l:=[_,_]) (by first|assumption|exact E.g 0 rfl) rfl (by assumption)⟩
  refine Az (fun aa=>?_) fun aa=>?_;(try simp only [BJ] at aa);refine R ?_;skip;refine IH [0,1,0,3,2,3] [true,true,false,true,true,true] [0,1,0,3,15,31] CI Ai ?_;refine Ft fun g E=>?_;have EC:=E;refine Ch fun _ _ _ _ g E=>?_;refine Jq U (A2 Ci (H U) U (fun _=>EC.g2.row)) ?_;refine AS fun _ _ _ g E=>?_;refine AC ?_;refine ⟨?_,g⟩;unfold Dw;simp only [k8,k9,Hg,h1,h3,h4,h6,h8,h9,aa,A8,A0]
  first
  | exact ⟨_,rfl,Gy⟩
  | exact ⟨_,rfl,E4 (l:=[_]) (by first|assumption|exact E.g 0 rfl) rfl (by assumption)⟩
  | exact ⟨_,rfl,E4 (l:=[_,_]) (by first|assumption|exact E.g 0 rfl) rfl (by assumption)⟩
  refine Az (fun ab=>?_) fun ab=>?_;(try simp only [BJ] at ab);refine R ?_;skip;refine IH [0,1,0,3,2,3] [true,true,false,true,true,true] [0,1,0,3,15,31] CI Ai ?_;refine Ft fun g E=>?_;have EC:=E;refine Ch fun _ _ _ _ g E=>?_;refine Jq U (A2 Ci (H U) U (fun _=>EC.Q.row)) ?_;refine AS fun _ _ _ g E=>?_;refine AC ?_;refine ⟨?_,g⟩;unfold Dw;simp only [k8,k9,Hg,h1,h3,h4,h6,h8,h9,aa,ab,A8,A0]
  first
  | exact ⟨_,rfl,Gy⟩
  | exact ⟨_,rfl,E4 (l:=[_]) (by first|assumption|exact E.g 0 rfl) rfl (by assumption)⟩
  | exact ⟨_,rfl,E4 (l:=[_,_]) (by first|assumption|exact E.g 0 rfl) rfl (by assumption)⟩
  refine Az (fun ac=>?_) fun ac=>?_;(try simp only [BJ] at ac);refine R ?_;skip;refine IH [0,0,1,0,3,2,3] [true,true,true,false,true,true,true] [0,0,3,0,7,31,63] CI Ai ?_;refine Ft fun g E=>?_;have EC:=E;refine Ch fun _ _ _ _ g E=>?_;refine Jq U (A2 Ci (H U) U (fun _=>EC.E.row)) ?_;refine AS fun _ _ _ g E=>?_;refine AC ?_;refine ⟨?_,g⟩;unfold Dw;simp only [k8,k9,Hg,h1,h3,h4,h6,h8,h9,aa,ab,ac,A8,A0]
  first
  | exact ⟨_,rfl,Gy⟩
  | exact ⟨_,rfl,E4 (l:=[_]) (by first|assumption|exact E.g 0 rfl) rfl (by assumption)⟩
  | exact ⟨_,rfl,E4 (l:=[_,_]) (by first|assumption|exact E.g 0 rfl) rfl (by assumption)⟩
  refine R ?_;refine C9 [0,3,2,3] ?_;refine Ft fun g E=>?_;refine AS fun _ _ _ g E=>?_;refine AC ?_;refine ⟨?_,g⟩;unfold Dw;simp only [k8,k9,Hg,h1,h3,h4,h6,h8,h9,aa,ab,ac,A8,A0]
  first
  | exact ⟨_,rfl,Gy⟩
  | exact ⟨_,rfl,E4 (l:=[_]) (by first|assumption|exact E.g 0 rfl) rfl (by assumption)⟩
  | exact ⟨_,rfl,E4 (l:=[_,_]) (by first|assumption|exact E.g 0 rfl) rfl (by assumption)⟩
  refine R ?_;refine C9 [0,3,2,3] ?_;refine Ft fun g E=>?_;refine AS fun _ _ _ g E=>?_;refine AC ?_;refine ⟨?_,g⟩;unfold Dw;simp only [k8,k9,Hg,h1,h3,h4,h6,h8,A8,A0]
  first
  | exact ⟨_,rfl,Gy⟩
  | exact ⟨_,rfl,E4 (l:=[_]) (by first|assumption|exact E.g 0 rfl) rfl (by assumption)⟩
  | exact ⟨_,rfl,E4 (l:=[_,_]) (by first|assumption|exact E.g 0 rfl) rfl (by assumption)⟩
theorem dS(y:Bu)(s:List UInt8){w:Ad}(Z:List Nat)(hZ:∀ j∈Z,j<w.heap.size):Bx Aj 141 #[D3 y,Co s] w fun r w'=>(∃ p c,r = .tuple #[.slice p (Dw y s).1.length c,D3 (Dw y s).2.1,.bool (Dw y s).2.2]∧Gb w.heap.size Z w' (Dw y s).1 (.slice p (Dw y s).1.length c))∧G w w' :=
 (kT y s w).mono fun r w' hr=>by
 obtain ⟨⟨l,e,h⟩,h1⟩:=hr;obtain ⟨p,c,rfl,_⟩:=id h;exact ⟨⟨p,c,e,h.ac fun b _ _ hl _=>⟨fun hm=>by have:=hZ b hm;omega,rfl⟩⟩,h1⟩
theorem Qn.to{F t:Nd}(C':Qn F t){n0 b:Nat}{S:An}{w:Ad}{v:Ak}{N m0:Nat}(Z:List Nat)(h:D4 F n0 b S w)(hk:Bo w (fun k=>k<n0) t.b v)(hb:EQ S N)(hc:N+count t≤1000000)(hZ:∀ j∈Z,j<w.heap.size)(hm:m0≤w.heap.size) :
 Bx Aj 140 #[.pointer (some ⟨b,0,none⟩),BV t v] w fun r w'=>(∃ p c,r = .tuple #[BV ((Ah F t).rcv S).1 (.slice p ((Ah F t).rcv S).1.b.length c),.bool ((Ah F t).rcv S).2]∧m0≤w.heap.size∧EP w.heap.size Z w' ((Ah F t).rcv S).1.b (.slice p ((Ah F t).rcv S).1.b.length c))∧G w w' :=
 (C' h hk hb hc).mono fun r w' hr=>by
 obtain ⟨⟨u,e,p,c,e2,k⟩,h1⟩:=hr;subst e2;exact ⟨⟨p,c,e,hm,FN.x k hZ⟩,h1⟩
set_option maxHeartbeats 4000000
theorem pD{F:Nd}{S:An}{t:Nd}(h:((CE F S t).2&&Ae ((CE F S t).1.ref=3))=true):0≤(Bk F 4 t.i).2:=by
 by_cases h4:0≤(Bk F 4 t.i).2;exact h4;exfalso;revert h;unfold CE
 cases Fc S.q t.i with
 | some v=>intro h;rw [DF] at h;exact absurd (AV h.2) (show ¬ (1:Int)=3 by decide)
 | none =>
  dsimp only;rw [Aq h4];cases Ae (0≤(Bk F 6 t.i).2);intro h;cases h;intro h;rw [DF] at h;exact absurd (AV h.2) (show ¬ (2:Int)=3 by decide)
theorem YY{w:Ad}{n0 m:Nat}{v:Ak}{xs:List Ak}(h:w.ownsRow n0 24 2 v m xs)(k:Nat)(hk:v.ownBlock=some k):¬ LL DQ w k:=fun ⟨cs,f,fr,h1,h2⟩=>by
 obtain ⟨_,aa,e',ab,h3,h4⟩:=Qy (M:=fun e _=>BM e 24) h rfl k hk;rw [h1] at h3;injection h3 with h3;injection h3 with _ h3;subst h3;have:=CQ h4;subst this;exact absurd h2 Q3
theorem pF{F t:Nd}(C':KQ F)(H':∀ i,i<t.b.length→KD F (V t i))(HX:Dy F 86 t (Ah F t).ex)(hx:Cg t=true):PD F t:=by
 intro n0 b S w v N h ag hb b2;have ec:(Ah F t).s S=FR F t (Ax F t) S:=by rw [GL];rfl
 have a8:(Ah F t).ex S=Ek F t (Ax F t) S:=by rw [GL];rfl
 rw [ec];obtain ⟨p,c,rfl,_⟩:=id ag;have dc:=h.lt;have ct:=JJ t;have g:=AP.refl DQ n0 w;refine Cj 153 [0,1] Tryz.func126 ?_;refine CN fun b3 _ ga _ g E=>?_;have h:=Ar h;have ag:=Ar ag;refine A1 fun b4 _ ga l4 g E=>?_;have h:=Ar h;have ag:=Ar ag;refine A1 fun b6 _ ga _ g E=>?_;have h:=Ar h;have ag:=Ar ag;refine Az (fun h1=>?_) fun h1=>?_
 ·have h1:t.c=28:=AV h1
  obtain ⟨_,hl,he⟩:=QA h1 hx;have dg:=P6 hl;have Q0:=H' 0 O;have x0:Ax F t 0=Ah F (V t 0):=Dz O;obtain ⟨hpe,c5,c4,hcell,a7⟩:=Ba ag (i:=0) O;refine R ?_;refine AK (Qn.to (Q0.rcv he) [b3,b4,b6] h a7 hb O (E.O Bq) g.size) ?_;rintro _ _ ⟨⟨dj,c9,rfl,ci,ae⟩,ga⟩;refine AY fun g E=>?_;have h:=AO h;have ag:=AO ag;refine A1 fun b7 _ ga _ g E=>?_;have ae:=Bp ae;have h:=Ar h;have ag:=Ar ag;refine AR fun _ ga Ca g E h=>?_;have ag:=Cq ag;have ae:=AM ae;refine Az (fun h2=>?_) fun h2=>?_
  ·(try simp only [BJ] at h2)
   obtain ⟨hpe,cz,cu,hcell,a7⟩:=Ba ag (i:=0) O;refine Az (fun h3=>?_) fun h3=>?_
   ·have h3:(V t 0).c=28:=AV h3
    obtain ⟨hpe,c3,cy,hcell,a7⟩:=Ba ag (i:=0) O;refine R ?_;refine AK (Nj.to (Q0.w he h3) [b3,b4,b6,b7] h a7 hb O (E.O Bq) g.size) ?_;rintro _ _ ⟨⟨db,dk,rfl,ch,af⟩,h,ga⟩;refine AY fun g E=>?_;refine AR fun _ ga Ca g E h=>?_;have af:=AM af;refine R ?_;refine AK (H9 t _ _ _) ?_;rintro _ _ ⟨rfl,ga⟩;refine AY fun g E=>?_;have h:=AO h;have af:=AO af;refine A1 fun b9 _ ga l9 g E=>?_;have af:=Bp af;have h:=Ar h;refine AR fun _ ga Ca g E h=>?_;have af:=AM af;refine Ch fun _ _ ga bh g E=>?_;have af:=Bp af;have h:=Ar h;refine AR fun _ ga Ca g E h=>?_;have af:=AM af;refine R ?_;refine AK (dS _ _ [b3,b4,b6,b7,b9] (E.O Bq)) ?_;rintro _ _ ⟨⟨ce,cf,rfl,aa⟩,ga⟩;refine AY fun g E=>?_;have h:=AO h;have af:=AO af;refine A1 fun _ _ ga df g E=>?_;have aa:=Bp aa;have af:=Bp af;have h:=Ar h;refine AS fun _ ga Ca g E=>?_;have aa:=IJ aa;have h:=Hk h;have af:=AM af;refine Az (fun h4=>?_) fun h4=>?_
    ·(try simp only [BJ] at h4)
     refine R ?_;refine AK (F5 t.m 5 h) ?_;rintro _ _ ⟨rfl,h,ga⟩;refine AY fun g E=>?_;have aa:=DP aa;have af:=DP af;refine R ?_;refine DE (Ef (some b4)) [0,3,0,1,3,2] [0,0,0,1,11,31] CI Ai [0,1,2,3,4,5] U ?_;refine Oj fun g E=>?_;have aa:=aa.a (G.drew _);have h:=h.a (G.drew _);have af:=af.a (G.drew _);refine Bg 0 U U (fun w1 hx=>A2 A3 (H U) U (fun _=>(E.g2.A hx (fun q=>(E.W 2 5 U U U) (by injection q))).row)) (Au 1 U U (fun _=>A9 (H U)) (Bg 2 U U (fun w1 hx=>A2 Ci (H U) U (fun _=>(E.E.A hx (fun q=>(E.W 0 5 U U U) (by injection q))).row)) (AQ 3 U U ?_)));refine Br (L':=[4,5]) [0,3,0,2,3,2] U U U ?_;refine AS fun _ a0 Ca g E=>?_;first|have aa:=aa.af a0 Ca rfl|have aa:=aa.A a0 (by first|exact .inl O|simp)
     have h:=h.A a0 Ca rfl O;have af:=af.A a0 BI;refine Bs (a0) ?_;refine Au 4 U U (fun _=>Eu (H U)) (AQ 5 U U ?_);refine Ds (L':=[]) [0,3,0,2,3,2] U U U U ?_;refine AS fun _ ga Ca g E=>?_;have aa:=IJ aa;have h:=Hk h;have af:=AM af;refine Dr ?_;refine Dp [0,3,4,5,6] ?_;refine AC ?_;have hm:(Dw ((Ah F (V t 0)).w S).1.1.ty t.i).2.2=false:=by simpa using h4
     have e:FR F t (Ax F t) S=((AJ t [((Ah F (V t 0)).w S).1.1] AA,(Dw ((Ah F (V t 0)).w S).1.1.ty t.i).1,(Dw ((Ah F (V t 0)).w S).1.1.ty t.i).2.1),AH (Dw ((Ah F (V t 0)).w S).1.1.ty t.i).2.2 t.m 5 ((Ah F (V t 0)).w S).2):=by
      unfold FR;rw [BW h1,x0,h2];show ((AJ t [(GS t (Ax F t) S).1] AA,(Dw (GS t (Ax F t) S).1.ty t.i).1,(Dw (GS t (Ax F t) S).1.ty t.i).2.1),AH (Dw (GS t (Ax F t) S).1.ty t.i).2.2 t.m 5 (GS t (Ax F t) S).2)=_;unfold GS;rw [x0,BW h3];rfl
     rw [e,hm];exact ⟨⟨_,_,rfl,BR (t:=AJ t [_] AA) rfl (D9 (ks:=[_]) ⟨bh,DK E.Q⟩ E.Q.row (Dh (af.Y ch)) (Bh _)),aa.row⟩,h,g⟩
    refine R ?_;refine DE (Ef (some b4)) [0,3,0,1,3,2] [0,0,0,1,11,31] CI Ai [0,1,2,3,4,5] U ?_;refine Oj fun g E=>?_;have aa:=aa.a (G.drew _);have h:=h.a (G.drew _);have af:=af.a (G.drew _);refine Bg 0 U U (fun w1 hx=>A2 A3 (H U) U (fun _=>(E.g2.A hx (fun q=>(E.W 2 5 U U U) (by injection q))).row)) (Au 1 U U (fun _=>A9 (H U)) (Bg 2 U U (fun w1 hx=>A2 Ci (H U) U (fun _=>(E.E.A hx (fun q=>(E.W 0 5 U U U) (by injection q))).row)) (AQ 3 U U ?_)));refine Br (L':=[4,5]) [0,3,0,2,3,2] U U U ?_;refine AS fun _ az Ca g E=>?_;first|have aa:=aa.af az Ca rfl|have aa:=aa.A az (by first|exact .inl O|simp)
    have h:=h.A az Ca rfl O;have af:=af.A az BI;refine Bs (az) ?_;refine Au 4 U U (fun _=>Eu (H U)) (AQ 5 U U ?_);refine Ds (L':=[]) [0,3,0,2,3,2] U U U U ?_;refine AS fun _ ga Ca g E=>?_;have aa:=IJ aa;have h:=Hk h;have af:=AM af;refine Dr ?_;refine Dp [0,3,4,5,6] ?_;refine AC ?_;have hm:(Dw ((Ah F (V t 0)).w S).1.1.ty t.i).2.2=true:=by simpa using h4
    have e:FR F t (Ax F t) S=((AJ t [((Ah F (V t 0)).w S).1.1] AA,(Dw ((Ah F (V t 0)).w S).1.1.ty t.i).1,(Dw ((Ah F (V t 0)).w S).1.1.ty t.i).2.1),AH (Dw ((Ah F (V t 0)).w S).1.1.ty t.i).2.2 t.m 5 ((Ah F (V t 0)).w S).2):=by
     unfold FR;rw [BW h1,x0,h2];show ((AJ t [(GS t (Ax F t) S).1] AA,(Dw (GS t (Ax F t) S).1.ty t.i).1,(Dw (GS t (Ax F t) S).1.ty t.i).2.1),AH (Dw (GS t (Ax F t) S).1.ty t.i).2.2 t.m 5 (GS t (Ax F t) S).2)=_;unfold GS;rw [x0,BW h3];rfl
    rw [e,hm];exact ⟨⟨_,_,rfl,BR (t:=AJ t [_] AA) rfl (D9 (ks:=[_]) ⟨bh,DK E.Q⟩ E.Q.row (Dh (af.Y ch)) (Bh _)),aa.row⟩,h,g⟩
   have h3:(V t 0).c≠28:=CM h3;refine R ?_;refine AK (H9 t _ _ _) ?_;rintro _ _ ⟨rfl,ga⟩;refine AY fun g E=>?_;have h:=AO h;have ae:=AO ae;refine A1 fun b9 _ ga _ g E=>?_;have ae:=Bp ae;have h:=Ar h;refine AR fun _ ga Ca g E h=>?_;have ae:=AM ae;refine Ch fun _ _ ga bh g E=>?_;have ae:=Bp ae;have h:=Ar h;refine AR fun _ ga Ca g E h=>?_;have ae:=AM ae;refine R ?_;refine AK (dS _ _ [b3,b4,b6,b7,b9] (E.O Bq)) ?_;rintro _ _ ⟨⟨ce,cf,rfl,aa⟩,ga⟩;refine AY fun g E=>?_;have h:=AO h;have ae:=AO ae;refine A1 fun _ _ ga _ g E=>?_;have aa:=Bp aa;have ae:=Bp ae;have h:=Ar h;refine AS fun _ ga Ca g E=>?_;have aa:=IJ aa;have h:=Hk h;have ae:=AM ae;refine Az (fun h5=>?_) fun h5=>?_
   ·(try simp only [BJ] at h5)
    refine R ?_;refine AK (F5 t.m 5 h) ?_;rintro _ _ ⟨rfl,h,ga⟩;refine AY fun g E=>?_;have aa:=DP aa;have ae:=DP ae;refine R ?_;refine DE (Ef (some b4)) [0,3,0,1,3,2] [0,0,0,1,11,31] CI Ai [0,1,2,3,4,5] U ?_;refine Oj fun g E=>?_;have aa:=aa.a (G.drew _);have h:=h.a (G.drew _);have ae:=ae.a (G.drew _);refine Bg 0 U U (fun w1 hx=>A2 A3 (H U) U (fun _=>(E.g2.A hx (fun q=>(E.W 2 5 U U U) (by injection q))).row)) (Au 1 U U (fun _=>A9 (H U)) (Bg 2 U U (fun w1 hx=>A2 Ci (H U) U (fun _=>(E.E.A hx (fun q=>(E.W 0 5 U U U) (by injection q))).row)) (AQ 3 U U ?_)));refine Br (L':=[4,5]) [0,3,0,2,3,2] U U U ?_;refine AS fun _ av Ca g E=>?_;first|have aa:=aa.af av Ca rfl|have aa:=aa.A av (by first|exact .inl O|simp)
    have h:=h.A av Ca rfl O;have ae:=ae.A av BI;refine Bs (av) ?_;refine Au 4 U U (fun _=>Eu (H U)) (AQ 5 U U ?_);refine Ds (L':=[]) [0,3,0,2,3,2] U U U U ?_;refine AS fun _ ga Ca g E=>?_;have aa:=IJ aa;have h:=Hk h;have ae:=AM ae;refine Dr ?_;refine Dp [0,3,4,5,6] ?_;refine AC ?_;have hm:(Dw ((Ah F (V t 0)).rcv S).1.ty t.i).2.2=false:=by simpa using h5
    have e:FR F t (Ax F t) S=((AJ t [((Ah F (V t 0)).rcv S).1] AA,(Dw ((Ah F (V t 0)).rcv S).1.ty t.i).1,(Dw ((Ah F (V t 0)).rcv S).1.ty t.i).2.1),AH (Dw ((Ah F (V t 0)).rcv S).1.ty t.i).2.2 t.m 5 S):=by
     unfold FR;rw [BW h1,x0,h2];show ((AJ t [(GS t (Ax F t) S).1] AA,(Dw (GS t (Ax F t) S).1.ty t.i).1,(Dw (GS t (Ax F t) S).1.ty t.i).2.1),AH (Dw (GS t (Ax F t) S).1.ty t.i).2.2 t.m 5 (GS t (Ax F t) S).2)=_;unfold GS;rw [x0,Aq h3];rfl
    rw [e,hm];exact ⟨⟨_,_,rfl,BR (t:=AJ t [_] AA) rfl (D9 (ks:=[_]) ⟨bh,DK E.Q⟩ E.Q.row (Dh (ae.Y ci)) (Bh _)),aa.row⟩,h,g⟩
   refine R ?_;refine DE (Ef (some b4)) [0,3,0,1,3,2] [0,0,0,1,11,31] CI Ai [0,1,2,3,4,5] U ?_;refine Oj fun g E=>?_;have aa:=aa.a (G.drew _);have h:=h.a (G.drew _);have ae:=ae.a (G.drew _);refine Bg 0 U U (fun w1 hx=>A2 A3 (H U) U (fun _=>(E.g2.A hx (fun q=>(E.W 2 5 U U U) (by injection q))).row)) (Au 1 U U (fun _=>A9 (H U)) (Bg 2 U U (fun w1 hx=>A2 Ci (H U) U (fun _=>(E.E.A hx (fun q=>(E.W 0 5 U U U) (by injection q))).row)) (AQ 3 U U ?_)));refine Br (L':=[4,5]) [0,3,0,2,3,2] U U U ?_;refine AS fun _ aw Ca g E=>?_;first|have aa:=aa.af aw Ca rfl|have aa:=aa.A aw (by first|exact .inl O|simp)
   have h:=h.A aw Ca rfl O;have ae:=ae.A aw BI;refine Bs (aw) ?_;refine Au 4 U U (fun _=>Eu (H U)) (AQ 5 U U ?_);refine Ds (L':=[]) [0,3,0,2,3,2] U U U U ?_;refine AS fun _ ga Ca g E=>?_;have aa:=IJ aa;have h:=Hk h;have ae:=AM ae;refine Dr ?_;refine Dp [0,3,4,5,6] ?_;refine AC ?_;have hm:(Dw ((Ah F (V t 0)).rcv S).1.ty t.i).2.2=true:=by simpa using h5
   have e:FR F t (Ax F t) S=((AJ t [((Ah F (V t 0)).rcv S).1] AA,(Dw ((Ah F (V t 0)).rcv S).1.ty t.i).1,(Dw ((Ah F (V t 0)).rcv S).1.ty t.i).2.1),AH (Dw ((Ah F (V t 0)).rcv S).1.ty t.i).2.2 t.m 5 S):=by
    unfold FR;rw [BW h1,x0,h2];show ((AJ t [(GS t (Ax F t) S).1] AA,(Dw (GS t (Ax F t) S).1.ty t.i).1,(Dw (GS t (Ax F t) S).1.ty t.i).2.1),AH (Dw (GS t (Ax F t) S).1.ty t.i).2.2 t.m 5 (GS t (Ax F t) S).2)=_;unfold GS;rw [x0,Aq h3];rfl
   rw [e,hm];exact ⟨⟨_,_,rfl,BR (t:=AJ t [_] AA) rfl (D9 (ks:=[_]) ⟨bh,DK E.Q⟩ E.Q.row (Dh (ae.Y ci)) (Bh _)),aa.row⟩,h,g⟩
  refine Az (fun h6=>?_) fun h6=>?_
  ·exfalso;have:=AV h6;omega
   done
  have cd:t.c≠27:=by omega
  have bn:(Ae (t.c=28)&&((Ax F t 0).rcv S).2)=false:=by rw [x0,h2,Bool.and_false]
  refine R ?_;refine AK (Dy.to (HX) [b3,b4,b6] h ag hb b2 (E.O Bq) g.size) ?_;rintro _ _ ⟨⟨bk,bm,rfl,ar,ab⟩,h,ga⟩;refine AY fun g E=>?_;refine A1 fun _ _ ga cn g E=>?_;have ab:=Bp ab;have h:=Ar h;refine AR fun _ ga Ca g E h=>?_;have ab:=AM ab;refine Az (fun h7=>?_) fun h7=>?_
  ·have hy:BP ((Ah F t).ex S).1.ty tFunc=false:=by have q:(!BP ((Ah F t).ex S).1.ty tFunc)=true:=h7;rw [Bool.not_eq_true'] at q;exact q
   refine R ?_;refine AK (F5 t.m 7 h) ?_;rintro _ _ ⟨rfl,h,ga⟩;refine AY fun g E=>?_;have ab:=DP ab;refine AR fun _ ga Ca g E h=>?_;have ab:=AM ab;refine AR fun _ ga Ca g E h=>?_;have ab:=AM ab;refine AC ?_
   have e:FR F t (Ax F t) S=((((Ah F t).ex S).1,[],AA),AH (BP ((Ah F t).ex S).1.ty tFunc) t.m 7 ((Ah F t).ex S).2):=by
    rw [a8];unfold FR;rw [bn,Aq cd];rfl
   rw [e,hy];exact ⟨⟨_,_,rfl,BR rfl (ab.Y ar),Gy (lo:=0) (X:=[]) |>.row⟩,h,g⟩
  have hy:BP ((Ah F t).ex S).1.ty tFunc=true:=by have q:(!BP ((Ah F t).ex S).1.ty tFunc)=false:=h7;rw [Bool.not_eq_false'] at q;exact q
  refine AR fun _ ga Ca g E h=>?_;have ab:=AM ab;refine AR fun _ ga Ca g E h=>?_;have ab:=AM ab;refine AC ?_
  have e:FR F t (Ax F t) S=((((Ah F t).ex S).1,[],AA),AH (BP ((Ah F t).ex S).1.ty tFunc) t.m 7 ((Ah F t).ex S).2):=by
   rw [a8];unfold FR;rw [bn,Aq cd];rfl
  rw [e,hy];exact ⟨⟨_,_,rfl,BR rfl (ab.Y ar),Gy (lo:=0) (X:=[]) |>.row⟩,h,g⟩
 have h1:t.c≠28:=CM h1;refine Az (fun h8=>?_) fun h8=>?_
 ·have h8:t.c=27:=AV h8
  refine R ?_;refine AK (Wh C' t _ _ h hb O) ?_;rintro _ _ ⟨rfl,ga⟩;refine AY fun g E=>?_;have h:=AO h;have ag:=AO ag;refine A1 fun bi _ ga _ g E=>?_;have h:=Ar h;have ag:=Ar ag;refine AR fun _ ga Ca g E h=>?_;have ag:=Cq ag;refine Az (fun h9=>?_) fun h9=>?_
  ·have h4:=pD h9
   obtain ⟨fv,sv,sn,h⟩:=h;have c8:=C'.l4 h4;have cb:=C'.lp h4;have da:=h.hF;have di:count (Bk F 4 t.i).1<count F:=Mt (Nf _ _ h4).1;have dh:=Hd (t:=(Bk F 4 t.i).1) (i:=0) O;have dd:=Ej (V (Bk F 4 t.i).1 0);refine R ?_;refine DE (Ef none) [3,3,3,0,3,0,1,3,3,3,1,2,3] [0,1,3,7,0,16,63,127,255,255,0,1535,4095] CI Ai [0,1,2,3,4,5,6,7,8,9,10,11,12] U ?_;refine Db fun g E h=>?_;refine Au 0 U U (fun _=>A9 (H U)) (Au 1 U U (fun _=>F8 (H U)) (Au 2 U U (fun _=>AE Ou (H U)) (Bg 3 U U (fun w1 hx=>A2 A3 (H U) U (fun _=>(h.B.A hx (by intro q;first|(injection q with q;omega)|cases q)).row.part 0 9)) (Au 4 U U (fun _=>AE E6 (H U)) (Bg 5 U U (fun w1 hx=>AU DU (H U) (fun _=>(E.g3.A hx DC).j U)) (KM 6 10 U U ?_ ?_))))))
   ·refine Br (L':=[7,8,9,10,11,12]) [3,3,3,0,3,0,1,3,3,3,1,2,3] rfl rfl rfl ?_
    refine AK (Lk F fv _ _ 4 t.i h.kF h.hF) ?_;rintro cq bf ⟨⟨bo,br,rfl,ad⟩,ax⟩;refine ⟨fun _=>ax,?_⟩;have g:=Cc g ax;replace E:=E.a ax;have h:=h.a (ax);obtain ⟨m1,aq⟩:∃ m,m=bf.heap.size:=⟨_,rfl⟩;have cj:b3<m1:=by rw [aq];exact E.g3.lt
    have cr:b4<m1:=by rw [aq];exact E.g2.lt
    have cp:b6<m1:=by rw [aq];exact E.Q.lt
    have b5:bi<m1:=by rw [aq];exact E.E.lt
    have ck:w.heap.size≤m1:=by rw [aq];exact g.size
    have ac:m1≤bf.heap.size:=Nat.le_of_eq aq;refine Bs ((ax).I _) ?_;refine Au 7 U U (fun _=>A9 (H U)) (Au 8 U U (fun _=>FW (H U) U) (Au 9 U U (fun _=>FW (H U) U) (AQ 10 U U ?_)));refine Br (L':=[11,12]) [3,3,3,0,3,0,1,3,3,3,1,2,3] U U U ?_;refine A1 fun bw _ a6 c7 g E=>?_;have ad:=ad.a (a6.g);have ac:=AN ac ((a6.g)).size;have h:=h.a (a6.g);refine Bs ((a6.g).I _) ?_;refine AQ 11 U U ?_;refine Ds (L':=[12]) [3,3,3,0,3,0,1,3,3,3,1,2,3] U U U U ?_;refine AS fun _ ga Ca g E=>?_;have ad:=Cq ad;have ac:=AN ac ga.size;have h:=Hk h;refine Dr ?_;refine Au 12 U U (fun _=>Eu (H U)) (Kf [(0,_,_),(3,_,_),(4,_,_),(5,_,_),(6,_,_),(13,_,_),(15,_,_)] (K U (K U (K U (K U (K U (K U (K U (Bm _)))))))) (FF (kq (Ao (Ay (BO U (Al (kq (Ao (Ao (Ay (BO U (Al (kq (DY (?_))))))))))))))));have bg:=E.1
    refine GG (fun (x:Nat×Option Addr×Nat) u1=>match x with|⟨i,a,ca⟩=>(i≤(V (Bk F 4 t.i).1 0).b.length∧FY F n0 b S fv sv sn u1∧Bo u1 (fun k=>k<n0) (Bk F 4 t.i).1.b (.slice bo (Bk F 4 t.i).1.b.length br)∧u1.ownsRow m1 24 2 (.slice a i ca) i ((((V (Bk F 4 t.i).1 0).b.map fun p=>(BF (V p 0)).1).take i).flatMap Ea)∧m1≤u1.heap.size)∧AP DQ n0 w u1) _ [(0,True,_),(3,True,_),(4,True,_),(5,True,_),(6,True,_),(13,True,_),(15,True,_)] (fun (x:Nat×Option Addr×Nat)=>match x with|⟨i,a,ca⟩=>[(17,True,.slice a i ca),(18,True,.int .i64 i)]) (fun (x:Nat×Option Addr×Nat)=>match x with|⟨i,a,ca⟩=>(V (Bk F 4 t.i).1 0).b.length-i) ((0,none,0)) ⟨⟨Fe _,h,ad,JX _ _ _ _,ac⟩,g⟩ (A4 (A6 E.g4) (A4 (A6 E.g3) (A4 (A6 E.g2) (A4 (A6 E.Q) (A4 (A6 E.E) (Di _)))))) (K U (K U (K U (K U (K U (K U (K U (K U (K U (Bm _)))))))))) ?_;clear E;rintro ⟨i,a,ca⟩ u1 ⟨bz,bq⟩ ⟨B3,B4,B6,a5,a4,_⟩;replace B3:Av _ _ _ _:=B3;replace B4:Av _ _ _ _:=B4;replace B6:Av _ _ _ _:=B6;replace a5:Av _ _ _ _:=a5;replace a4:Av _ _ _ _:=a4;have g:=bq;obtain ⟨hi,h,ad,ov,ac⟩:=bz;obtain ⟨e0,p0,c0,ap,a1⟩:=Ba ad (i:=0) O;have E:=GP (L:=[(bw,_,_),(bi,_,_),(b6,_,_),(b4,_,_),(b3,_,_)]) bg ⟨a4,a5,B6,B4,B3,BN⟩ rfl;refine Ao (Ao (Ay (As U (AF AW U (AL Bj U (E.E.j U) (Dn AB U U O e0 (AF AW U (AL Bj U (ap.one (i:=4) U) (ED AB U (G2 U U (Al (kq (CB U (fun ah=>?_) (fun ah=>?_))))))))))))))
    ·have ah:i<(V (Bk F 4 t.i).1 0).b.length:=by simp only [BQ] at ah;omega
     obtain ⟨e1,p1,c1,ao,au⟩:=Ba a1 (i:=i) ah;have bt:=cb _ (FB ah);rw [← D6 ah] at bt;obtain ⟨e2,p2,c2,ay,bv⟩:=Ba au (i:=0) O;refine CU (kq (Ao (DY (Ao (Ay (AF AW U (AL Bj U (E.E.j U) (Dn AB U U O e0 (AF AW U (AL Bj U (ap.one (i:=4) U) (As U (Dn AB U U O e1 (AF AW U (AL Bj U (ao.one (i:=4) U) (Dn AB U U O e2 (CH A3 U U ay (?_)))))))))))))))));refine F1 U (BK V4 Cf (CF U CT) U) (M4 (V (V (V (Bk F 4 t.i).1 0) i) 0) _ _ _) (fun b8 am=>?_);have g:=Cc g am;replace E:=E.a am;have ad:=ad.a (am);have ov:=D7 ov (am);have ac:=AN ac ((am)).size;have h:=h.a (am);refine A1 fun _ _ ga de g E=>?_;have bc:=fun k hk=>Fy (FP (ov.lt k hk).2 ga.j.symm);have ad:=Ar ad;have ov:=D7 ov (ga.g);have ac:=AN ac ((ga.g)).size;have h:=Ar h;refine AS fun _ ga Ca g E=>?_;have ad:=Cq ad;have ac:=AN ac ga.size;have ov:=Df ov ga (.inr (fun q=>bc _ q rfl));have h:=Hk h;refine Ch fun _ _ al cw g E=>?_;have be:=fun k hk=>Fy (FP (ov.lt k hk).2 al.j.symm);have ad:=ad.a (al.g);have ov:=D7 ov (al.g);have ac:=AN ac ((al.g)).size;have h:=h.a (al.g);refine ID U IR Fw U Cb (H U) ov (H U) U al.p.row U (by simp only [maxLen];omega) O ac ?_;intro a2 a9 ba a3 ai bj;have an:=fun k hk=>(ov.lt k hk).1;have ac:=AN ac ai.size;have g:=EY g ai (fun k hk=>by have:=an k hk;omega)
     replace E:=E.A ai (Cr.2 ⟨((fun q=>be _ q.symm rfl)),Cr.2 ⟨((fun q=>bc _ q.symm rfl)),Cr.2 ⟨((fun q=>DR ov E.g2 rfl q.symm)),Cr.2 ⟨((fun q=>by have:=an _ q.symm;omega)),Cr.2 ⟨((fun q=>by have:=an _ q.symm;omega)),Cr.2 ⟨((fun q=>by have:=an _ q.symm;omega)),Cr.2 ⟨((fun q=>by have:=an _ q.symm;omega)),RZ _⟩⟩⟩⟩⟩⟩⟩);have h:=h.ai ai (fun k hk=>⟨by have:=an k hk;omega,fun hT=>YY ov k hk hT⟩);have ad:=ad.A ai (fun k hk _ e=>by have:=an k e.symm;omega)
     have bp:(((V (Bk F 4 t.i).1 0).b.map fun p=>(BF (V p 0)).1).take i).flatMap Ea++Ea (BF (V (V (V (Bk F 4 t.i).1 0) i) 0)).1=(((V (Bk F 4 t.i).1 0).b.map fun p=>(BF (V p 0)).1).take (i+1)).flatMap Ea:=by
      rw [QQ (show i<((V (Bk F 4 t.i).1 0).b.map fun p=>(BF (V p 0)).1).length by rw [DV];exact ah),Jb,Gg,← D6 ah];simp
     have a3:ba.ownsRow m1 24 2 (.slice a2 (i+1) a9) (i+1) ((((V (Bk F 4 t.i).1 0).b.map fun p=>(BF (V p 0)).1).take (i+1)).flatMap Ea):=bp▸a3;refine R ?_;refine BL [17,18,0,3,4,5,6,13,15] ?_;refine Al (fun a ha=>?_);exact ⟨(i+1,a2,a9),ha,⟨⟨ah,h,ad,a3,ac⟩,g⟩,(A4 (A6 E.g6) (A4 (A6 E.g5) (A4 (A6 E.g4) (A4 (A6 E.g3) (A4 (A6 E.g2) (Di _)))))),by show _-(i+1)<_-i;omega⟩
    have ah:i=(V (Bk F 4 t.i).1 0).b.length:=by simp only [CK] at ah;omega
    subst ah;refine R ?_;obtain ⟨e1,p1,c1,ao,au⟩:=Ba ad (i:=1) O;have bs:(V (Bk F 4 t.i).1 0).b.length=((V (Bk F 4 t.i).1 0).b.map fun p=>(BF (V p 0)).1).length:=by rw [DV]
    have aa:Gb m1 [] _ ((V (Bk F 4 t.i).1 0).b.map fun p=>(BF (V p 0)).1) (.slice a ((V (Bk F 4 t.i).1 0).b.map fun p=>(BF (V p 0)).1).length ca):=YZ (by have q:=ov;rw [show (V (Bk F 4 t.i).1 0).b.length=((V (Bk F 4 t.i).1 0).b.map fun p=>(BF (V p 0)).1).length by rw [DV],List.take_length] at q;exact q);refine R ?_;refine DA (M4 (V (Bk F 4 t.i).1 1) _ _ _) (fun cg ak=>?_);have g:=Cc g ak;replace E:=E.a ak;have aa:=aa.a (ak);have ov:=D7 ov (ak);have ac:=AN ac ((ak)).size;have h:=h.a (ak);refine A1 fun _ _ ga c6 g E=>?_;have aa:=Bp aa;have b0:=fun k hk=>Fy (FP (ov.lt k hk).2 ga.j.symm);have ov:=D7 ov (ga.g);have ac:=AN ac ((ga.g)).size;have h:=Ar h;refine AS fun _ ga Ca g E=>?_;have aa:=IJ aa;have ac:=AN ac ga.size;have ov:=Df ov ga (.inr (fun q=>b0 _ q rfl));have h:=Hk h;refine R ?_;refine DE (Ef (some b4)) [0,3,0,1,3,2] [0,0,0,1,11,31] CI Ai [0,1,2,3,4,5] U ?_;refine Oj fun g E=>?_;have aa:=aa.a (G.drew _);have ov:=D7 ov (G.drew _);have ac:=AN ac ((G.drew _)).size;have h:=h.a (G.drew _);refine Bg 0 U U (fun w1 hx=>A2 A3 (H U) U (fun _=>(E.g2.A hx (fun h=>E.W 2 4 U U U (EM h))).row)) (Au 1 U U (fun _=>A9 (H U)) (Bg 2 U U (fun w1 hx=>A2 Ci (H U) U (fun _=>(E.E.A hx (fun h=>E.W 0 4 U U U (EM h))).row)) (AQ 3 U U ?_)));refine Br (L':=[4,5]) [0,3,0,2,3,2] U U U ?_;refine AS fun _ aj Ca g E=>?_
    first|have aa:=aa.af aj Ca rfl|have aa:=aa.A aj (by first|exact .inl O|simp)
    have ac:=AN ac aj.size;have h:=h.A aj Ca rfl O;refine Bs (aj) ?_;refine Au 4 U U (fun _=>Eu (H U)) (AQ 5 U U ?_);refine Ds (L':=[]) [0,3,0,2,3,2] U U U U ?_;refine AS fun _ ga Ca g E=>?_;have aa:=IJ aa;have ac:=AN ac ga.size;have h:=Hk h;refine Dr ?_;refine Dp [0,3,4,5,6,13,15,17,21,129,130,131,132,133,134,135,136,137,138,139] ?_;refine AC ?_
    have e:FR F t (Ax F t) S=(((CE F S t).1,((V (Bk F 4 t.i).1 0).b.map fun p=>(BF (V p 0)).1),(BF (V (Bk F 4 t.i).1 1)).1),S):=by
     unfold FR;rw [Aq h1,BW h8,h9];rfl
    rw [e];exact ⟨⟨_,_,rfl,BR (t:=(CE F S t).1) rfl (Qf _ _),by have q:=aa.row;rw [← bs] at q;exact q⟩,h.ah,g⟩
   ·refine Br (L':=[6,7,8,9,11,12]) [3,3,3,0,3,0,1,3,3,3,1,2,3] rfl rfl rfl ?_
    refine A1 fun bw _ a6 _ g E=>?_;have h:=h.a (a6.g);refine Bs ((a6.g).I _) ?_;refine AQ 6 U U ?_;refine Br (L':=[7,8,9,11,12]) [3,3,3,0,3,0,1,3,3,3,1,2,3] U U U ?_;refine AK (Lk F fv _ _ 4 t.i h.kF h.hF) ?_;rintro cq bf ⟨⟨bo,br,rfl,ad⟩,ax⟩;refine ⟨fun _=>ax,?_⟩;have g:=Cc g ax;replace E:=E.a ax;have h:=h.a (ax);obtain ⟨m1,aq⟩:∃ m,m=bf.heap.size:=⟨_,rfl⟩;have cj:b3<m1:=by rw [aq];exact E.g4.lt
    have cr:b4<m1:=by rw [aq];exact E.g3.lt
    have cp:b6<m1:=by rw [aq];exact E.g2.lt
    have b5:bi<m1:=by rw [aq];exact E.Q.lt
    have ck:w.heap.size≤m1:=by rw [aq];exact g.size
    have ac:m1≤bf.heap.size:=Nat.le_of_eq aq;refine Bs ((ax).I _) ?_;refine Au 7 U U (fun _=>A9 (H U)) (Au 8 U U (fun _=>FW (H U) U) (Au 9 U U (fun _=>FW (H U) U) (AQ 11 U U ?_)));refine Ds (L':=[12]) [3,3,3,0,3,0,1,3,3,3,1,2,3] U U U U ?_;refine AS fun _ ga Ca g E=>?_;have ad:=Cq ad;have ac:=AN ac ga.size;have h:=Hk h;refine Dr ?_;refine Au 12 U U (fun _=>Eu (H U)) (Kf [(0,_,_),(3,_,_),(4,_,_),(5,_,_),(6,_,_),(13,_,_),(15,_,_)] (K U (K U (K U (K U (K U (K U (K U (Bm _)))))))) (FF (kq (Ao (Ay (BO U (Al (kq (Ao (Ao (Ay (BO U (Al (kq (DY (?_))))))))))))))));have bg:=E.1;refine GG (fun (x:Nat×Option Addr×Nat) u1=>match x with|⟨i,a,ca⟩=>(i≤(V (Bk F 4 t.i).1 0).b.length∧FY F n0 b S fv sv sn u1∧Bo u1 (fun k=>k<n0) (Bk F 4 t.i).1.b (.slice bo (Bk F 4 t.i).1.b.length br)∧u1.ownsRow m1 24 2 (.slice a i ca) i ((((V (Bk F 4 t.i).1 0).b.map fun p=>(BF (V p 0)).1).take i).flatMap Ea)∧m1≤u1.heap.size)∧AP DQ n0 w u1) _ [(0,True,_),(3,True,_),(4,True,_),(5,True,_),(6,True,_),(13,True,_),(15,True,_)] (fun (x:Nat×Option Addr×Nat)=>match x with|⟨i,a,ca⟩=>[(17,True,.slice a i ca),(18,True,.int .i64 i)]) (fun (x:Nat×Option Addr×Nat)=>match x with|⟨i,a,ca⟩=>(V (Bk F 4 t.i).1 0).b.length-i) ((0,none,0)) ⟨⟨Fe _,h,ad,JX _ _ _ _,ac⟩,g⟩ (A4 (A6 E.g4) (A4 (A6 E.g3) (A4 (A6 E.g2) (A4 (A6 E.Q) (A4 (A6 E.E) (Di _)))))) (K U (K U (K U (K U (K U (K U (K U (K U (K U (Bm _)))))))))) ?_;clear E;rintro ⟨i,a,ca⟩ u1 ⟨bz,bq⟩ ⟨B3,B4,B6,a5,a4,_⟩
    replace B3:Av _ _ _ _:=B3;replace B4:Av _ _ _ _:=B4;replace B6:Av _ _ _ _:=B6;replace a5:Av _ _ _ _:=a5;replace a4:Av _ _ _ _:=a4;have g:=bq;obtain ⟨hi,h,ad,ov,ac⟩:=bz;obtain ⟨e0,p0,c0,ap,a1⟩:=Ba ad (i:=0) O;have E:=GP (L:=[(bw,_,_),(bi,_,_),(b6,_,_),(b4,_,_),(b3,_,_)]) bg ⟨a4,a5,B6,B4,B3,BN⟩ rfl;refine Ao (Ao (Ay (As U (AF AW U (AL Bj U (E.E.j U) (Dn AB U U O e0 (AF AW U (AL Bj U (ap.one (i:=4) U) (ED AB U (G2 U U (Al (kq (CB U (fun ah=>?_) (fun ah=>?_))))))))))))))
    ·have ah:i<(V (Bk F 4 t.i).1 0).b.length:=by simp only [BQ] at ah;omega
     obtain ⟨e1,p1,c1,ao,au⟩:=Ba a1 (i:=i) ah;have bt:=cb _ (FB ah);rw [← D6 ah] at bt;obtain ⟨e2,p2,c2,ay,bv⟩:=Ba au (i:=0) O;refine CU (kq (Ao (DY (Ao (Ay (AF AW U (AL Bj U (E.E.j U) (Dn AB U U O e0 (AF AW U (AL Bj U (ap.one (i:=4) U) (As U (Dn AB U U O e1 (AF AW U (AL Bj U (ao.one (i:=4) U) (Dn AB U U O e2 (CH A3 U U ay (?_)))))))))))))))));refine F1 U (BK V4 Cf (CF U CT) U) (M4 (V (V (V (Bk F 4 t.i).1 0) i) 0) _ _ _) (fun b8 am=>?_);have g:=Cc g am;replace E:=E.a am;have ad:=ad.a (am);have ov:=D7 ov (am);have ac:=AN ac ((am)).size;have h:=h.a (am);refine A1 fun _ _ ga _ g E=>?_;have bc:=fun k hk=>Fy (FP (ov.lt k hk).2 ga.j.symm);have ad:=Ar ad;have ov:=D7 ov (ga.g);have ac:=AN ac ((ga.g)).size;have h:=Ar h;refine AS fun _ ga Ca g E=>?_;have ad:=Cq ad;have ac:=AN ac ga.size;have ov:=Df ov ga (.inr (fun q=>bc _ q rfl));have h:=Hk h;refine Ch fun _ _ al _ g E=>?_;have be:=fun k hk=>Fy (FP (ov.lt k hk).2 al.j.symm);have ad:=ad.a (al.g);have ov:=D7 ov (al.g);have ac:=AN ac ((al.g)).size;have h:=h.a (al.g);refine ID U IR Fw U Cb (H U) ov (H U) U al.p.row U (by simp only [maxLen];omega) O ac ?_;intro a2 a9 ba a3 ai bj;have an:=fun k hk=>(ov.lt k hk).1;have ac:=AN ac ai.size;have g:=EY g ai (fun k hk=>by have:=an k hk;omega)
     replace E:=E.A ai (Cr.2 ⟨((fun q=>be _ q.symm rfl)),Cr.2 ⟨((fun q=>bc _ q.symm rfl)),Cr.2 ⟨((fun q=>DR ov E.g2 rfl q.symm)),Cr.2 ⟨((fun q=>by have:=an _ q.symm;omega)),Cr.2 ⟨((fun q=>by have:=an _ q.symm;omega)),Cr.2 ⟨((fun q=>by have:=an _ q.symm;omega)),Cr.2 ⟨((fun q=>by have:=an _ q.symm;omega)),RZ _⟩⟩⟩⟩⟩⟩⟩);have h:=h.ai ai (fun k hk=>⟨by have:=an k hk;omega,fun hT=>YY ov k hk hT⟩);have ad:=ad.A ai (fun k hk _ e=>by have:=an k e.symm;omega)
     have bp:(((V (Bk F 4 t.i).1 0).b.map fun p=>(BF (V p 0)).1).take i).flatMap Ea++Ea (BF (V (V (V (Bk F 4 t.i).1 0) i) 0)).1=(((V (Bk F 4 t.i).1 0).b.map fun p=>(BF (V p 0)).1).take (i+1)).flatMap Ea:=by
      rw [QQ (show i<((V (Bk F 4 t.i).1 0).b.map fun p=>(BF (V p 0)).1).length by rw [DV];exact ah),Jb,Gg,← D6 ah];simp
     have a3:ba.ownsRow m1 24 2 (.slice a2 (i+1) a9) (i+1) ((((V (Bk F 4 t.i).1 0).b.map fun p=>(BF (V p 0)).1).take (i+1)).flatMap Ea):=bp▸a3;refine R ?_;refine BL [17,18,0,3,4,5,6,13,15] ?_;refine Al (fun a ha=>?_);exact ⟨(i+1,a2,a9),ha,⟨⟨ah,h,ad,a3,ac⟩,g⟩,(A4 (A6 E.g6) (A4 (A6 E.g5) (A4 (A6 E.g4) (A4 (A6 E.g3) (A4 (A6 E.g2) (Di _)))))),by show _-(i+1)<_-i;omega⟩
    have ah:i=(V (Bk F 4 t.i).1 0).b.length:=by simp only [CK] at ah;omega
    subst ah;refine R ?_;obtain ⟨e1,p1,c1,ao,au⟩:=Ba ad (i:=1) O;have bs:(V (Bk F 4 t.i).1 0).b.length=((V (Bk F 4 t.i).1 0).b.map fun p=>(BF (V p 0)).1).length:=by rw [DV]
    have aa:Gb m1 [] _ ((V (Bk F 4 t.i).1 0).b.map fun p=>(BF (V p 0)).1) (.slice a ((V (Bk F 4 t.i).1 0).b.map fun p=>(BF (V p 0)).1).length ca):=YZ (by have q:=ov;rw [show (V (Bk F 4 t.i).1 0).b.length=((V (Bk F 4 t.i).1 0).b.map fun p=>(BF (V p 0)).1).length by rw [DV],List.take_length] at q;exact q);refine R ?_;refine DA (M4 (V (Bk F 4 t.i).1 1) _ _ _) (fun cg ak=>?_);have g:=Cc g ak;replace E:=E.a ak;have aa:=aa.a (ak);have ov:=D7 ov (ak);have ac:=AN ac ((ak)).size;have h:=h.a (ak);refine A1 fun _ _ ga _ g E=>?_;have aa:=Bp aa;have b0:=fun k hk=>Fy (FP (ov.lt k hk).2 ga.j.symm);have ov:=D7 ov (ga.g);have ac:=AN ac ((ga.g)).size;have h:=Ar h;refine AS fun _ ga Ca g E=>?_;have aa:=IJ aa;have ac:=AN ac ga.size;have ov:=Df ov ga (.inr (fun q=>b0 _ q rfl));have h:=Hk h;refine R ?_;refine DE (Ef (some b4)) [0,3,0,1,3,2] [0,0,0,1,11,31] CI Ai [0,1,2,3,4,5] U ?_;refine Oj fun g E=>?_;have aa:=aa.a (G.drew _);have ov:=D7 ov (G.drew _);have ac:=AN ac ((G.drew _)).size;have h:=h.a (G.drew _);refine Bg 0 U U (fun w1 hx=>A2 A3 (H U) U (fun _=>(E.g2.A hx (fun h=>E.W 2 4 U U U (EM h))).row)) (Au 1 U U (fun _=>A9 (H U)) (Bg 2 U U (fun w1 hx=>A2 Ci (H U) U (fun _=>(E.E.A hx (fun h=>E.W 0 4 U U U (EM h))).row)) (AQ 3 U U ?_)));refine Br (L':=[4,5]) [0,3,0,2,3,2] U U U ?_;refine AS fun _ aj Ca g E=>?_
    first|have aa:=aa.af aj Ca rfl|have aa:=aa.A aj (by first|exact .inl O|simp)
    have ac:=AN ac aj.size;have h:=h.A aj Ca rfl O;refine Bs (aj) ?_;refine Au 4 U U (fun _=>Eu (H U)) (AQ 5 U U ?_);refine Ds (L':=[]) [0,3,0,2,3,2] U U U U ?_;refine AS fun _ ga Ca g E=>?_;have aa:=IJ aa;have ac:=AN ac ga.size;have h:=Hk h;refine Dr ?_;refine Dp [0,3,4,5,6,13,15,17,21,129,130,131,132,133,134,135,136,137,138,139] ?_;refine AC ?_
    have e:FR F t (Ax F t) S=(((CE F S t).1,((V (Bk F 4 t.i).1 0).b.map fun p=>(BF (V p 0)).1),(BF (V (Bk F 4 t.i).1 1)).1),S):=by
     unfold FR;rw [Aq h1,BW h8,h9];rfl
    rw [e];exact ⟨⟨_,_,rfl,BR (t:=(CE F S t).1) rfl (Qf _ _),by have q:=aa.row;rw [← bs] at q;exact q⟩,h.ah,g⟩
  refine R ?_;refine AK (Dy.to (HX) [b3,b4,b6] h ag hb b2 (E.O Bq) g.size) ?_;rintro _ _ ⟨⟨bk,bm,rfl,ar,ab⟩,h,ga⟩;refine AY fun g E=>?_;refine A1 fun _ _ ga cn g E=>?_;have ab:=Bp ab;have h:=Ar h;refine AR fun _ ga Ca g E h=>?_;have ab:=AM ab;refine Az (fun b1=>?_) fun b1=>?_
  ·have hy:BP ((Ah F t).ex S).1.ty tFunc=false:=by have q:(!BP ((Ah F t).ex S).1.ty tFunc)=true:=b1;rw [Bool.not_eq_true'] at q;exact q
   refine R ?_;refine AK (F5 t.m 7 h) ?_;rintro _ _ ⟨rfl,h,ga⟩;refine AY fun g E=>?_;have ab:=DP ab;refine AR fun _ ga Ca g E h=>?_;have ab:=AM ab;refine AR fun _ ga Ca g E h=>?_;have ab:=AM ab;refine AC ?_
   have e:FR F t (Ax F t) S=((((Ah F t).ex S).1,[],AA),AH (BP ((Ah F t).ex S).1.ty tFunc) t.m 7 ((Ah F t).ex S).2):=by
    rw [a8];unfold FR;rw [Aq h1,BW h8,h9];rfl
   rw [e,hy];exact ⟨⟨_,_,rfl,BR rfl (ab.Y ar),Gy (lo:=0) (X:=[]) |>.row⟩,h,g⟩
  have hy:BP ((Ah F t).ex S).1.ty tFunc=true:=by have q:(!BP ((Ah F t).ex S).1.ty tFunc)=false:=b1;rw [Bool.not_eq_false'] at q;exact q
  refine AR fun _ ga Ca g E h=>?_;have ab:=AM ab;refine AR fun _ ga Ca g E h=>?_;have ab:=AM ab;refine AC ?_
  have e:FR F t (Ax F t) S=((((Ah F t).ex S).1,[],AA),AH (BP ((Ah F t).ex S).1.ty tFunc) t.m 7 ((Ah F t).ex S).2):=by
   rw [a8];unfold FR;rw [Aq h1,BW h8,h9];rfl
  rw [e,hy];exact ⟨⟨_,_,rfl,BR rfl (ab.Y ar),Gy (lo:=0) (X:=[]) |>.row⟩,h,g⟩
 have h8:t.c≠27:=CM h8;refine R ?_;refine AK (Dy.to (HX) [b3,b4,b6] h ag hb b2 (E.O Bq) g.size) ?_;rintro _ _ ⟨⟨bk,bm,rfl,ar,ab⟩,h,ga⟩;refine AY fun g E=>?_;refine A1 fun _ _ ga _ g E=>?_;have ab:=Bp ab;have h:=Ar h;refine AR fun _ ga Ca g E h=>?_;have ab:=AM ab;refine Az (fun bu=>?_) fun bu=>?_
 ·have hy:BP ((Ah F t).ex S).1.ty tFunc=false:=by have q:(!BP ((Ah F t).ex S).1.ty tFunc)=true:=bu;rw [Bool.not_eq_true'] at q;exact q
  refine R ?_;refine AK (F5 t.m 7 h) ?_;rintro _ _ ⟨rfl,h,ga⟩;refine AY fun g E=>?_;have ab:=DP ab;refine AR fun _ ga Ca g E h=>?_;have ab:=AM ab;refine AR fun _ ga Ca g E h=>?_;have ab:=AM ab;refine AC ?_
  have e:FR F t (Ax F t) S=((((Ah F t).ex S).1,[],AA),AH (BP ((Ah F t).ex S).1.ty tFunc) t.m 7 ((Ah F t).ex S).2):=by
   rw [a8];unfold FR;rw [Aq h1,Aq h8];rfl
  rw [e,hy];exact ⟨⟨_,_,rfl,BR rfl (ab.Y ar),Gy (lo:=0) (X:=[]) |>.row⟩,h,g⟩
 have hy:BP ((Ah F t).ex S).1.ty tFunc=true:=by have q:(!BP ((Ah F t).ex S).1.ty tFunc)=false:=bu;rw [Bool.not_eq_false'] at q;exact q
 refine AR fun _ ga Ca g E h=>?_;have ab:=AM ab;refine AR fun _ ga Ca g E h=>?_;have ab:=AM ab;refine AC ?_
 have e:FR F t (Ax F t) S=((((Ah F t).ex S).1,[],AA),AH (BP ((Ah F t).ex S).1.ty tFunc) t.m 7 ((Ah F t).ex S).2):=by
  rw [a8];unfold FR;rw [Aq h1,Aq h8];rfl
 rw [e,hy];exact ⟨⟨_,_,rfl,BR rfl (ab.Y ar),Gy (lo:=0) (X:=[]) |>.row⟩,h,g⟩
set_option maxHeartbeats 4000000
theorem Dl.new{X:List Nat}{lo b:Nat}{w w':Ad}{ks:List Nd}{s:Ak}{e:Aw}{l:List Ak}(h:Dl X lo w ks s)(N:Ks w w' b e l):Dl (b::X) lo w' ks s:=by
 have:=N.j
 exact QD h (fun k hk aa=>⟨⟨hk.1.1,fun hm=>by
  rcases E1.1 hm with q|q;omega;exact hk.1.2 q⟩,hk.2.a N.g⟩) (fun k _ aa=>N.g.block aa) fun xs h=>D7 h N.g
theorem Dl.sub{X Y:List Nat}{lo:Nat}{w:Ad}{ks:List Nd}{s:Ak}(h:Dl X lo w ks s)(hs:∀ b∈Y,b∈X):Dl Y lo w ks s :=
 QD h (fun k hk _=>⟨⟨hk.1.1,fun hm=>hk.1.2 (hs k hm)⟩,hk.2⟩) (fun _ _ _=>rfl) fun xs h=>h
theorem Gb.ax{lo:Nat}{X:List Nat}{w:Ad}{l:List Bu}{v:Ak}(h:Gb lo X w l v):Gb 0 [] w l v:=h.row.x
theorem V9{lo:Nat}{X:List Nat}{w:Ad}{l:List Bu}{p:Option Addr}{c:Nat}(h:Gb lo X w l (.slice p l.length c)){i:Nat}(hi:i<l.length):p=some ⟨E5 p,Gq p,none⟩∧Cv w (E5 p) (Gq p+i*2) (Ea l[i]):=by
 obtain ⟨p',c',hv,h⟩:=h;injection hv with e1 _ e2;subst e1;obtain ⟨b,o,cs,fr,rfl,_,_,hR⟩:=h O;exact ⟨rfl,Ow (f:=Ea) (z:=2) P5 hR hi⟩
theorem dG{lo:Nat}{X:List Nat}{w:Ad}{l:List Bu}{p:Option Addr}{c:Nat}(h:Gb lo X w l (.slice p l.length c)){i:Nat}(hi:i<l.length):Cv w (E5 p) (Gq p+i*2) (Ea (l.getD i AA)):=by
 rw [Jo,I4 hi];exact (V9 h hi).2
theorem PD.to{F t:Nd}(C':PD F t){n0 b:Nat}{S:An}{w:Ad}{v:Ak}{N m0:Nat}(Z:List Nat)(h:D4 F n0 b S w)(hk:Bo w (fun k=>k<n0) t.b v)(hb:EQ S N)(hc:N+count t≤1000000)(hZ:∀ j∈Z,j<w.heap.size)(hm:m0≤w.heap.size) :
 Bx Aj 126 #[.pointer (some ⟨b,0,none⟩),BV t v] w fun r w'=>(∃ p c pl cl,r = .tuple #[BV ((Ah F t).s S).1.1 (.slice p ((Ah F t).s S).1.1.b.length c),.slice pl ((Ah F t).s S).1.2.1.length cl,D3 ((Ah F t).s S).1.2.2]∧m0≤w.heap.size∧EP w.heap.size Z w' ((Ah F t).s S).1.1.b (.slice p ((Ah F t).s S).1.1.b.length c)∧Gb 0 [] w' ((Ah F t).s S).1.2.1 (.slice pl ((Ah F t).s S).1.2.1.length cl))∧D4 F n0 b ((Ah F t).s S).2 w'∧AP DQ n0 w w' :=
 (C' h hk hb hc).mono fun r w' hr=>by
 obtain ⟨⟨u,l,e,⟨p,c,e2,k⟩,hl⟩,h1,h2⟩:=hr;subst e2;obtain ⟨pl,cl,rfl,_⟩:=id hl;exact ⟨⟨p,c,pl,cl,e,hm,FN.x k hZ,hl.x⟩,h1,h2⟩
theorem PZ(t:Nd)(x:Nat→GT)(ps:List Bu)(S:An):∀ i,(Eo t x ps S i).1.length=i
 | 0=>rfl
 | i+1=>by
  show ((Eo t x ps S i).1++[_]).length=_;rw [CW,PZ t x ps S i];rfl
theorem qB{F t:Nd}(H':∀ i,i<t.b.length→KD F (V t i))(ba:t.c=30)(hx:Cg t=true):Dy F 104 t (I3 t (Ax F t)):=by
 intro n0 b S w v N h ao hb ce;obtain ⟨hl,al⟩:=XP ba hx;have x0:Ax F t 0=Ah F (V t 0):=Dz O;obtain ⟨p,c,rfl,_⟩:=id ao;have aa:=ao;have aj:=h.lt;have b7:=Ej t;have he:Cg (V t 0)=true:=IK al O;have Q0:=H' 0 O;have b9:CV t 1=DM t 0:=by show 0+DM t 0=_;omega
 have b0:=IC t 1;have cb:DM t 0=count (V t 0):=H4 O
 have a7:BZ (CV t 1) S (AH (Ae ((t.b.length:Int)-1=(((Ah F (V t 0)).s S).1.2.1.length:Nat))) t.m 7 ((Ah F (V t 0)).s S).2):=by
  have q:=((EE F (V t 0)).s S).C (Ae ((t.b.length:Int)-1=(((Ah F (V t 0)).s S).1.2.1.length:Nat))) t.m 7;exact q.mono O
 have az:∀ i,BZ (CV t (i+1)) S (Eo t (Ax F t) ((Ah F (V t 0)).s S).1.2.1 (AH (Ae ((t.b.length:Int)-1=(((Ah F (V t 0)).s S).1.2.1.length:Nat))) t.m 7 ((Ah F (V t 0)).s S).2) i).2:=fun i=>TI (Nv F t) ((Ah F (V t 0)).s S).1.2.1 a7 i;have g:=AP.refl DQ n0 w;refine Cj 84 [0,1] Tryz.func104 ?_;refine CN fun b3 _ ga _ g E=>?_;have h:=Ar h;have aa:=Ar aa;refine A1 fun b4 _ ga _ g E=>?_;have h:=Ar h;have aa:=Ar aa;refine R ?_;refine AK (H9 t _ _ _) ?_;rintro _ _ ⟨rfl,ga⟩;refine AY fun g E=>?_;have h:=AO h;have aa:=AO aa;refine A1 fun b5 _ ga _ g E=>?_;have h:=Ar h;have aa:=Ar aa;refine AR fun _ ga Ca g E h=>?_;have aa:=Cq aa;obtain ⟨hpe,bt,bu,hcell,ah⟩:=Ba aa (i:=0) O;refine R ?_;refine AK (PD.to (Q0.s he) [b3,b4,b5] h ah hb O (E.O Bq) g.size) ?_;rintro _ _ ⟨⟨b2,b1,pl,cl,rfl,bv,ag,hr⟩,h,ga⟩;refine AY fun g E=>?_;have aa:=F0 aa;refine A1 fun b6 _ ga _ g E=>?_;have hr:=Bp hr;have ag:=Bp ag;have h:=Ar h;have aa:=Ar aa;refine A1 fun b8 _ ga _ g E=>?_;have hr:=Bp hr;have ag:=Bp ag;have h:=Ar h;have aa:=Ar aa;refine AS fun _ ga Ca g E=>?_;have hr:=IJ hr;have h:=Hk h;have aa:=Cq aa;have ag:=AM ag;refine AS fun _ ga Ca g E=>?_;have hr:=IJ hr;have h:=Hk h;have aa:=Cq aa;have ag:=AM ag;refine R ?_;skip;refine R ?_;refine Fo _ U AB Ck (A5 U Cz) U U ?_;intro bg bz af;have a6:=Du af g.size;have hr:=hr.new af;have ag:=ag.new af;have a4:=af.p;have bj:=af.W E.g4;have bi:=af.W E.g3;have be:=af.W E.g2;have bo:=af.W E.Q;have bm:=af.W E.E;have g:=Cc g af.g;replace E:=E.a af.g
 have h:=h.a (af.g);have aa:=aa.a (af.g);have hO:Dl [b3,b4,b5,b6,b8] w.heap.size _ [((Ah F (V t 0)).s S).1.1] (.slice (some ⟨bg,0,none⟩) 1 1):=M1 a4 a6 (ag.mono fun k hk _=>⟨⟨⟨by have:=hk.1.1;omega,by have:=hk.1.2;simp at this ⊢;omega⟩,hk.2⟩,by have:=hk.1.2;simp at this;omega⟩) ⟨⟨a6,by simp;omega⟩,DK a4⟩;refine AS fun _ ga Ca g E=>?_;have hr:=IJ hr;have h:=Hk h;have aa:=Cq aa;have hO:=DO hO;refine Az (fun h1=>?_) fun h1=>?_;have hq:Ae ((t.b.length:Int)-1=(((Ah F (V t 0)).s S).1.2.1.length:Nat))=false:=by simpa using h1
 refine R ?_;refine AK (F5 t.m 7 h) ?_;rintro _ _ ⟨rfl,h,ga⟩;refine AY fun g E=>?_;have hr:=DP hr;have aa:=F0 aa;have hO:=hO.gt ga rfl;have eS:DI t.m 7 ((Ah F (V t 0)).s S).2=(AH (Ae ((t.b.length:Int)-1=(((Ah F (V t 0)).s S).1.2.1.length:Nat))) t.m 7 ((Ah F (V t 0)).s S).2):=by rw [hq];rfl
 rw [eS] at h;refine R ?_;have a8:=E.1;refine GG (fun (i:Nat) u1=>(i+1≤t.b.length∧D4 F n0 b (Eo t (Ax F t) ((Ah F (V t 0)).s S).1.2.1 (AH (Ae ((t.b.length:Int)-1=(((Ah F (V t 0)).s S).1.2.1.length:Nat))) t.m 7 ((Ah F (V t 0)).s S).2) i).2 u1∧Gb 0 [] u1 ((Ah F (V t 0)).s S).1.2.1 (.slice pl ((Ah F (V t 0)).s S).1.2.1.length cl)∧∃ s,Av u1 b5 26 (Cs (DN t) s)∧Dl [b3,b4,b5,b6,b8] w.heap.size u1 (((Ah F (V t 0)).s S).1.1::(Eo t (Ax F t) ((Ah F (V t 0)).s S).1.2.1 (AH (Ae ((t.b.length:Int)-1=(((Ah F (V t 0)).s S).1.2.1.length:Nat))) t.m 7 ((Ah F (V t 0)).s S).2) i).1) s)∧AP DQ n0 w u1) _ [(0,True,_),(3,True,_),(4,True,_),(5,True,_),(7,True,_),(8,True,_)] (fun (i:Nat)=>[(9,True,.int .i64 ((i+1:Nat):Int))]) (fun (i:Nat)=>t.b.length-i) (0) ⟨⟨hl,h,hr.ax,_,E.g2,hO.sub D2⟩,g⟩ (A4 (A6 E.g4) (A4 (A6 E.g3) (A4 (A6 E.Q) (A4 (A6 E.E) (Di _))))) (K U (K U (K U (K U (K U (K U (K U (Bm _)))))))) ?_;clear E;rintro i u1 ⟨bn,a1⟩ ⟨B3,B4,B6,B8,_⟩;replace B3:Av _ _ _ _:=B3;replace B4:Av _ _ _ _:=B4;replace B6:Av _ _ _ _:=B6;replace B8:Av _ _ _ _:=B8;have g:=a1;obtain ⟨hi,h,hr,s,B5,hO⟩:=bn;obtain ⟨sa,sc,rfl⟩:=hO.slice;have aa:=ao.gt a1 (fun k h=>h);have a5:(((Ah F (V t 0)).s S).1.1::(Eo t (Ax F t) ((Ah F (V t 0)).s S).1.2.1 (AH (Ae ((t.b.length:Int)-1=(((Ah F (V t 0)).s S).1.2.1.length:Nat))) t.m 7 ((Ah F (V t 0)).s S).2) i).1).length=i+1:=by rw [FS,PZ]
 have bp:=PZ t (Ax F t) ((Ah F (V t 0)).s S).1.2.1 (AH (Ae ((t.b.length:Int)-1=(((Ah F (V t 0)).s S).1.2.1.length:Nat))) t.m 7 ((Ah F (V t 0)).s S).2) i;have E:=GP (L:=[(b8,_,_),(b6,_,_),(b5,_,_),(b4,_,_),(b3,_,_)]) a8 ⟨B8,B6,B5,B4,B3,BN⟩ rfl;refine Az (fun h2=>?_) fun h2=>?_;have h2:i+1<t.b.length:=by simp only [BQ] at h2;omega
 have am:=h2;obtain ⟨e0,p1,c1,hcell,ah⟩:=Ba aa (i:=i+1) h2;have Qi:Dy F 86 (V t (i+1)) (Ah F (V t (i+1))).ex:=(H' (i+1) h2).ex (IK al h2);have xi:Ax F t (i+1)=Ah F (V t (i+1)):=Dz h2;have aw:=(az i).bd _ hb;have br:=IC t (i+2);have bc:=H4 h2;have a0:CV t (i+2)=CV t (i+1)+DM t (i+1):=rfl;have ak:=hO.lt;have ei:(((i+1:Nat):Int)-1).toNat=i:=by omega
 refine R ?_;refine AK (Dy.to Qi [b3,b4,b5,b6,b8] h ah aw O (E.O Bq) g.size) ?_;rintro _ _ ⟨⟨bk,bq,rfl,an,ab⟩,h,ga⟩;refine AY fun g E=>?_;have hr:=DP hr;have aa:=F0 aa;have hO:=hO.gt ga rfl;have hd:Ae (((i+1:Nat):Int)-1<(((Ah F (V t 0)).s S).1.2.1.length:Nat))=Ae (i<((Ah F (V t 0)).s S).1.2.1.length):=by rw [decide_eq_decide];omega
 have ea:Eo t (Ax F t) ((Ah F (V t 0)).s S).1.2.1 (AH (Ae ((t.b.length:Int)-1=(((Ah F (V t 0)).s S).1.2.1.length:Nat))) t.m 7 ((Ah F (V t 0)).s S).2) (i+1)=((Eo t (Ax F t) ((Ah F (V t 0)).s S).1.2.1 (AH (Ae ((t.b.length:Int)-1=(((Ah F (V t 0)).s S).1.2.1.length:Nat))) t.m 7 ((Ah F (V t 0)).s S).2) i).1++[((Ah F (V t (i+1))).ex (Eo t (Ax F t) ((Ah F (V t 0)).s S).1.2.1 (AH (Ae ((t.b.length:Int)-1=(((Ah F (V t 0)).s S).1.2.1.length:Nat))) t.m 7 ((Ah F (V t 0)).s S).2) i).2).1],AH (!(Ae (i<((Ah F (V t 0)).s S).1.2.1.length) && !EL (((Ah F (V t 0)).s S).1.2.1.getD i AA) ((Ah F (V t (i+1))).ex (Eo t (Ax F t) ((Ah F (V t 0)).s S).1.2.1 (AH (Ae ((t.b.length:Int)-1=(((Ah F (V t 0)).s S).1.2.1.length:Nat))) t.m 7 ((Ah F (V t 0)).s S).2) i).2).1.ty)) (V t (i+1)).m 7 ((Ah F (V t (i+1))).ex (Eo t (Ax F t) ((Ah F (V t 0)).s S).1.2.1 (AH (Ae ((t.b.length:Int)-1=(((Ah F (V t 0)).s S).1.2.1.length:Nat))) t.m 7 ((Ah F (V t 0)).s S).2) i).2).2):=by
  show ((Eo t (Ax F t) ((Ah F (V t 0)).s S).1.2.1 (AH (Ae ((t.b.length:Int)-1=(((Ah F (V t 0)).s S).1.2.1.length:Nat))) t.m 7 ((Ah F (V t 0)).s S).2) i).1++[((Ax F t (i+1)).ex (Eo t (Ax F t) ((Ah F (V t 0)).s S).1.2.1 (AH (Ae ((t.b.length:Int)-1=(((Ah F (V t 0)).s S).1.2.1.length:Nat))) t.m 7 ((Ah F (V t 0)).s S).2) i).2).1],_)=_;rw [xi]
 refine A1 fun _ _ ga bw g E=>?_;have hr:=Bp hr;have hO:=Bp hO;have ab:=Bp ab;have h:=Ar h;have aa:=Ar aa;refine AS fun _ ga Ca g E=>?_;have hr:=IJ hr;have h:=Hk h;have aa:=Cq aa;have ab:=AM ab;have hO:=DO hO;refine R ?_;refine C9 [3,3,3,3,3,3,3,3,3,3,0,3,0,1,3,3] ?_;refine Oj fun g E=>?_;have hr:=hr.a (G.drew _);have h:=h.a (G.drew _);have aa:=aa.a (G.drew _);have ab:=ab.a (G.drew _);have hO:=hO.a (G.drew _);refine R ?_;refine AD U U U (fun _=>CS IR (Am U id) (Am U id) (fun hc=>by have:=AV hc.2;omega) (fun hc=>(V9 hr (i:=i) (by have:=AV hc.2;omega)).1)) (BU U U U (A2 Ci (Am U id) U (fun hc=>by rw [ei];exact dG hr (i:=i) (by have:=AV hc.2;omega))) ?_);refine R ?_;refine F4 (fun hc=>O0 (((Ah F (V t 0)).s S).1.2.1.getD i AA) ((Ah F (V t (i+1))).ex (Eo t (Ax F t) ((Ah F (V t 0)).s S).1.2.1 (AH (Ae ((t.b.length:Int)-1=(((Ah F (V t 0)).s S).1.2.1.length:Nat))) t.m 7 ((Ah F (V t 0)).s S).2) i).2).1.ty _) (fun bf ae=>?_);have g:=Cc g ae;replace E:=E.a ae;have hr:=hr.a (ae);have h:=h.a (ae);have aa:=aa.a (ae);have ab:=ab.a (ae);have hO:=hO.a (ae);refine Az (fun h3=>?_) fun h3=>?_;rw [hd] at h3;refine R ?_;obtain ⟨e0,p1,c1,hcell,ah⟩:=Ba aa (i:=i+1) am;refine R ?_;refine AK (F5 (V t (i+1)).m 7 h) ?_;rintro _ _ ⟨rfl,h,ga⟩;refine AY fun g E=>?_;have hr:=DP hr;have ab:=DP ab;have hO:=hO.gt ga rfl
 refine Ch fun _ _ ga a3 g E=>?_;have hr:=Bp hr;have hO:=Bp hO;have ab:=Bp ab;have h:=Ar h;have hOo:=hO;refine Hq U AB Ck U (H U) hO (H U) U E.E.row (Fq ab an D2 (fun j hj=>.inr (ak j hj))) (by simp;omega) Dj ⟨by have:=g.size;omega,by have q3:=E.g6.lt;have q4:=E.g5.lt;have q5:=E.g4.lt;have q6:=E.g3.lt;have q8:=E.g2.lt;have av:=E.Q.lt;have ax:=E.E.lt;simp;omega⟩ ?_;intro au ay ar hO ac;replace E:=E.ab ac hOo.W Bq;have g:=EY g ac Fm;have hr:=hr.ac (fun b aj ⟨cs,fr,hh⟩ _ hx=>⟨hx,ac.block b aj (fun e=>by obtain ⟨aq,ap,h2⟩:=hOo.nd b e.symm;rw [hh] at h2;injection h2 with h2;injection h2 with _ h2;exact absurd h2 Cb)⟩);have h:=h.aa ac hOo O;refine AS fun _ ga Ca g E=>?_;have hr:=IJ hr;have h:=Hk h;have hO:=DO hO;refine R ?_;refine BL [9,0,3,4,5,7,8] ?_;refine Al (fun a ha=>?_);exact ⟨i+1,ha,⟨⟨h2,by rw [ea,h3];exact h,hr.ax,_,E.g4,by rw [ea];exact hO.sub D2⟩,g⟩,(A4 (A6 E.g6) (A4 (A6 E.g5) (A4 (A6 E.g3) (A4 (A6 E.g2) (Di _))))),O⟩;rw [hd] at h3;refine Ch fun _ _ ga a3 g E=>?_;have hr:=Bp hr;have hO:=Bp hO;have ab:=Bp ab;have h:=Ar h;have hOo:=hO;refine Hq U AB Ck U (H U) hO (H U) U E.E.row (Fq ab an D2 (fun j hj=>.inr (ak j hj))) (by simp;omega) Dj ⟨by have:=g.size;omega,by have q3:=E.g6.lt;have q4:=E.g5.lt;have q5:=E.g4.lt;have q6:=E.g3.lt;have q8:=E.g2.lt;have av:=E.Q.lt;have ax:=E.E.lt;simp;omega⟩ ?_;intro au ay ar hO ac
 replace E:=E.ab ac hOo.W Bq;have g:=EY g ac Fm;have hr:=hr.ac (fun b aj ⟨cs,fr,hh⟩ _ hx=>⟨hx,ac.block b aj (fun e=>by obtain ⟨aq,ap,h2⟩:=hOo.nd b e.symm;rw [hh] at h2;injection h2 with h2;injection h2 with _ h2;exact absurd h2 Cb)⟩);have h:=h.aa ac hOo O;refine AS fun _ ga Ca g E=>?_;have hr:=IJ hr;have h:=Hk h;have hO:=DO hO;refine R ?_;refine BL [9,0,3,4,5,7,8] ?_;refine Al (fun a ha=>?_);exact ⟨i+1,ha,⟨⟨h2,by rw [ea,h3];exact h,hr.ax,_,E.g4,by rw [ea];exact hO.sub D2⟩,g⟩,(A4 (A6 E.g6) (A4 (A6 E.g5) (A4 (A6 E.g3) (A4 (A6 E.g2) (Di _))))),O⟩;have h2:i=t.b.length-1:=by simp only [CK] at h2;omega
 subst h2;refine R ?_;refine CZ U E0 (H U) (H U) U U E.g2 U U ?_;intro cd ai _ BS;have C5:=E.g2;replace E:=E.s2 ai BS;have g:=CC g ai O;first|have hr:=hr.af ai C5 rfl|have hr:=hr.A ai (by first|exact .inl O|simp)
 have h:=h.A ai C5 rfl O;first|have hO:=hO.af ai C5 rfl|have hO:=hO.A ai BI
 refine AS fun _ ga Ca g E=>?_;have hr:=IJ hr;have h:=Hk h;have hO:=DO hO;refine AC ?_;have e:I3 t (Ax F t) S=(AJ t (((Ah F (V t 0)).s S).1.1::(Eo t (Ax F t) ((Ah F (V t 0)).s S).1.2.1 (AH (Ae ((t.b.length:Int)-1=(((Ah F (V t 0)).s S).1.2.1.length:Nat))) t.m 7 ((Ah F (V t 0)).s S).2) (t.b.length-1)).1) ((Ah F (V t 0)).s S).1.2.2,(Eo t (Ax F t) ((Ah F (V t 0)).s S).1.2.1 (AH (Ae ((t.b.length:Int)-1=(((Ah F (V t 0)).s S).1.2.1.length:Nat))) t.m 7 ((Ah F (V t 0)).s S).2) (t.b.length-1)).2):=by unfold I3;rw [x0]
 rw [e];exact ⟨BR (t:=AJ t _ _) rfl hO.kd,h,g⟩;have hq:Ae ((t.b.length:Int)-1=(((Ah F (V t 0)).s S).1.2.1.length:Nat))=true:=by simpa using h1
 have eS:((Ah F (V t 0)).s S).2=(AH (Ae ((t.b.length:Int)-1=(((Ah F (V t 0)).s S).1.2.1.length:Nat))) t.m 7 ((Ah F (V t 0)).s S).2):=by rw [hq];rfl
 rw [eS] at h;refine R ?_;have a2:=E.1;refine GG (fun (i:Nat) u2=>(i+1≤t.b.length∧D4 F n0 b (Eo t (Ax F t) ((Ah F (V t 0)).s S).1.2.1 (AH (Ae ((t.b.length:Int)-1=(((Ah F (V t 0)).s S).1.2.1.length:Nat))) t.m 7 ((Ah F (V t 0)).s S).2) i).2 u2∧Gb 0 [] u2 ((Ah F (V t 0)).s S).1.2.1 (.slice pl ((Ah F (V t 0)).s S).1.2.1.length cl)∧∃ s,Av u2 b5 26 (Cs (DN t) s)∧Dl [b3,b4,b5,b6,b8] w.heap.size u2 (((Ah F (V t 0)).s S).1.1::(Eo t (Ax F t) ((Ah F (V t 0)).s S).1.2.1 (AH (Ae ((t.b.length:Int)-1=(((Ah F (V t 0)).s S).1.2.1.length:Nat))) t.m 7 ((Ah F (V t 0)).s S).2) i).1) s)∧AP DQ n0 w u2) _ [(0,True,_),(3,True,_),(4,True,_),(5,True,_),(7,True,_),(8,True,_)] (fun (i:Nat)=>[(9,True,.int .i64 ((i+1:Nat):Int))]) (fun (i:Nat)=>t.b.length-i) (0) ⟨⟨hl,h,hr.ax,_,E.g2,hO.sub D2⟩,g⟩ (A4 (A6 E.g4) (A4 (A6 E.g3) (A4 (A6 E.Q) (A4 (A6 E.E) (Di _))))) (K U (K U (K U (K U (K U (K U (K U (Bm _)))))))) ?_;clear E;rintro i u2 ⟨bh,a9⟩ ⟨B3,B4,B6,B8,_⟩;replace B3:Av _ _ _ _:=B3;replace B4:Av _ _ _ _:=B4;replace B6:Av _ _ _ _:=B6;replace B8:Av _ _ _ _:=B8;have g:=a9;obtain ⟨hi,h,hr,s,B5,hO⟩:=bh;obtain ⟨sa,sc,rfl⟩:=hO.slice;have aa:=ao.gt a9 (fun k h=>h);have a5:(((Ah F (V t 0)).s S).1.1::(Eo t (Ax F t) ((Ah F (V t 0)).s S).1.2.1 (AH (Ae ((t.b.length:Int)-1=(((Ah F (V t 0)).s S).1.2.1.length:Nat))) t.m 7 ((Ah F (V t 0)).s S).2) i).1).length=i+1:=by rw [FS,PZ]
 have bp:=PZ t (Ax F t) ((Ah F (V t 0)).s S).1.2.1 (AH (Ae ((t.b.length:Int)-1=(((Ah F (V t 0)).s S).1.2.1.length:Nat))) t.m 7 ((Ah F (V t 0)).s S).2) i;have E:=GP (L:=[(b8,_,_),(b6,_,_),(b5,_,_),(b4,_,_),(b3,_,_)]) a2 ⟨B8,B6,B5,B4,B3,BN⟩ rfl;refine Az (fun h4=>?_) fun h4=>?_;have h4:i+1<t.b.length:=by simp only [BQ] at h4;omega
 have am:=h4;obtain ⟨e0,p1,c1,hcell,ah⟩:=Ba aa (i:=i+1) h4;have Qi:Dy F 86 (V t (i+1)) (Ah F (V t (i+1))).ex:=(H' (i+1) h4).ex (IK al h4);have xi:Ax F t (i+1)=Ah F (V t (i+1)):=Dz h4;have aw:=(az i).bd _ hb;have br:=IC t (i+2);have bc:=H4 h4;have a0:CV t (i+2)=CV t (i+1)+DM t (i+1):=rfl;have ak:=hO.lt;have ei:(((i+1:Nat):Int)-1).toNat=i:=by omega
 refine R ?_;refine AK (Dy.to Qi [b3,b4,b5,b6,b8] h ah aw O (E.O Bq) g.size) ?_;rintro _ _ ⟨⟨bk,bq,rfl,an,ab⟩,h,ga⟩;refine AY fun g E=>?_;have hr:=DP hr;have aa:=F0 aa;have hO:=hO.gt ga rfl;have hd:Ae (((i+1:Nat):Int)-1<(((Ah F (V t 0)).s S).1.2.1.length:Nat))=Ae (i<((Ah F (V t 0)).s S).1.2.1.length):=by rw [decide_eq_decide];omega
 have ea:Eo t (Ax F t) ((Ah F (V t 0)).s S).1.2.1 (AH (Ae ((t.b.length:Int)-1=(((Ah F (V t 0)).s S).1.2.1.length:Nat))) t.m 7 ((Ah F (V t 0)).s S).2) (i+1)=((Eo t (Ax F t) ((Ah F (V t 0)).s S).1.2.1 (AH (Ae ((t.b.length:Int)-1=(((Ah F (V t 0)).s S).1.2.1.length:Nat))) t.m 7 ((Ah F (V t 0)).s S).2) i).1++[((Ah F (V t (i+1))).ex (Eo t (Ax F t) ((Ah F (V t 0)).s S).1.2.1 (AH (Ae ((t.b.length:Int)-1=(((Ah F (V t 0)).s S).1.2.1.length:Nat))) t.m 7 ((Ah F (V t 0)).s S).2) i).2).1],AH (!(Ae (i<((Ah F (V t 0)).s S).1.2.1.length) && !EL (((Ah F (V t 0)).s S).1.2.1.getD i AA) ((Ah F (V t (i+1))).ex (Eo t (Ax F t) ((Ah F (V t 0)).s S).1.2.1 (AH (Ae ((t.b.length:Int)-1=(((Ah F (V t 0)).s S).1.2.1.length:Nat))) t.m 7 ((Ah F (V t 0)).s S).2) i).2).1.ty)) (V t (i+1)).m 7 ((Ah F (V t (i+1))).ex (Eo t (Ax F t) ((Ah F (V t 0)).s S).1.2.1 (AH (Ae ((t.b.length:Int)-1=(((Ah F (V t 0)).s S).1.2.1.length:Nat))) t.m 7 ((Ah F (V t 0)).s S).2) i).2).2):=by
  show ((Eo t (Ax F t) ((Ah F (V t 0)).s S).1.2.1 (AH (Ae ((t.b.length:Int)-1=(((Ah F (V t 0)).s S).1.2.1.length:Nat))) t.m 7 ((Ah F (V t 0)).s S).2) i).1++[((Ax F t (i+1)).ex (Eo t (Ax F t) ((Ah F (V t 0)).s S).1.2.1 (AH (Ae ((t.b.length:Int)-1=(((Ah F (V t 0)).s S).1.2.1.length:Nat))) t.m 7 ((Ah F (V t 0)).s S).2) i).2).1],_)=_;rw [xi]
 refine A1 fun _ _ ga _ g E=>?_;have hr:=Bp hr;have hO:=Bp hO;have ab:=Bp ab;have h:=Ar h;have aa:=Ar aa;refine AS fun _ ga Ca g E=>?_;have hr:=IJ hr;have h:=Hk h;have aa:=Cq aa;have ab:=AM ab;have hO:=DO hO;refine R ?_;refine C9 [3,3,3,3,3,3,3,3,3,3,0,3,0,1,3,3] ?_;refine Oj fun g E=>?_;have hr:=hr.a (G.drew _);have h:=h.a (G.drew _);have aa:=aa.a (G.drew _);have ab:=ab.a (G.drew _);have hO:=hO.a (G.drew _);refine R ?_;refine AD U U U (fun _=>CS IR (Am U id) (Am U id) (fun hc=>by have:=AV hc.2;omega) (fun hc=>(V9 hr (i:=i) (by have:=AV hc.2;omega)).1)) (BU U U U (A2 Ci (Am U id) U (fun hc=>by rw [ei];exact dG hr (i:=i) (by have:=AV hc.2;omega))) ?_);refine R ?_;refine F4 (fun hc=>O0 (((Ah F (V t 0)).s S).1.2.1.getD i AA) ((Ah F (V t (i+1))).ex (Eo t (Ax F t) ((Ah F (V t 0)).s S).1.2.1 (AH (Ae ((t.b.length:Int)-1=(((Ah F (V t 0)).s S).1.2.1.length:Nat))) t.m 7 ((Ah F (V t 0)).s S).2) i).2).1.ty _) (fun bf ae=>?_);have g:=Cc g ae;replace E:=E.a ae;have hr:=hr.a (ae);have h:=h.a (ae);have aa:=aa.a (ae);have ab:=ab.a (ae);have hO:=hO.a (ae);refine Az (fun h5=>?_) fun h5=>?_;rw [hd] at h5;refine R ?_;obtain ⟨e0,p1,c1,hcell,ah⟩:=Ba aa (i:=i+1) am;refine R ?_;refine AK (F5 (V t (i+1)).m 7 h) ?_;rintro _ _ ⟨rfl,h,ga⟩;refine AY fun g E=>?_;have hr:=DP hr;have ab:=DP ab;have hO:=hO.gt ga rfl;refine Ch fun _ _ ga a3 g E=>?_
 have hr:=Bp hr;have hO:=Bp hO;have ab:=Bp ab;have h:=Ar h;have hOo:=hO;refine Hq U AB Ck U (H U) hO (H U) U E.E.row (Fq ab an D2 (fun j hj=>.inr (ak j hj))) (by simp;omega) Dj ⟨by have:=g.size;omega,by have q3:=E.g6.lt;have q4:=E.g5.lt;have q5:=E.g4.lt;have q6:=E.g3.lt;have q8:=E.g2.lt;have av:=E.Q.lt;have ax:=E.E.lt;simp;omega⟩ ?_;intro au ay ar hO ac;replace E:=E.ab ac hOo.W Bq;have g:=EY g ac Fm;have hr:=hr.ac (fun b aj ⟨cs,fr,hh⟩ _ hx=>⟨hx,ac.block b aj (fun e=>by obtain ⟨aq,ap,h2⟩:=hOo.nd b e.symm;rw [hh] at h2;injection h2 with h2;injection h2 with _ h2;exact absurd h2 Cb)⟩);have h:=h.aa ac hOo O;refine AS fun _ ga Ca g E=>?_;have hr:=IJ hr;have h:=Hk h;have hO:=DO hO;refine R ?_;refine BL [9,0,3,4,5,7,8] ?_;refine Al (fun a ha=>?_);exact ⟨i+1,ha,⟨⟨h4,by rw [ea,h5];exact h,hr.ax,_,E.g4,by rw [ea];exact hO.sub D2⟩,g⟩,(A4 (A6 E.g6) (A4 (A6 E.g5) (A4 (A6 E.g3) (A4 (A6 E.g2) (Di _))))),O⟩;rw [hd] at h5;refine Ch fun _ _ ga _ g E=>?_;have hr:=Bp hr;have hO:=Bp hO;have ab:=Bp ab;have h:=Ar h;have hOo:=hO;refine Hq U AB Ck U (H U) hO (H U) U E.E.row (Fq ab an D2 (fun j hj=>.inr (ak j hj))) (by simp;omega) Dj ⟨by have:=g.size;omega,by have q3:=E.g6.lt;have q4:=E.g5.lt;have q5:=E.g4.lt;have q6:=E.g3.lt;have q8:=E.g2.lt;have av:=E.Q.lt;have ax:=E.E.lt;simp;omega⟩ ?_;intro au ay ar hO ac;replace E:=E.ab ac hOo.W Bq
 have g:=EY g ac Fm;have hr:=hr.ac (fun b aj ⟨cs,fr,hh⟩ _ hx=>⟨hx,ac.block b aj (fun e=>by obtain ⟨aq,ap,h2⟩:=hOo.nd b e.symm;rw [hh] at h2;injection h2 with h2;injection h2 with _ h2;exact absurd h2 Cb)⟩);have h:=h.aa ac hOo O;refine AS fun _ ga Ca g E=>?_;have hr:=IJ hr;have h:=Hk h;have hO:=DO hO;refine R ?_;refine BL [9,0,3,4,5,7,8] ?_;refine Al (fun a ha=>?_);exact ⟨i+1,ha,⟨⟨h4,by rw [ea,h5];exact h,hr.ax,_,E.g4,by rw [ea];exact hO.sub D2⟩,g⟩,(A4 (A6 E.g6) (A4 (A6 E.g5) (A4 (A6 E.g3) (A4 (A6 E.g2) (Di _))))),O⟩;have h4:i=t.b.length-1:=by simp only [CK] at h4;omega
 subst h4;refine R ?_;refine CZ U E0 (H U) (H U) U U E.g2 U U ?_;intro bs ad _ BS;have C5:=E.g2;replace E:=E.s2 ad BS;have g:=CC g ad O;first|have hr:=hr.af ad C5 rfl|have hr:=hr.A ad (by first|exact .inl O|simp)
 have h:=h.A ad C5 rfl O;first|have hO:=hO.af ad C5 rfl|have hO:=hO.A ad BI
 refine AS fun _ ga Ca g E=>?_;have hr:=IJ hr;have h:=Hk h;have hO:=DO hO;refine AC ?_;have e:I3 t (Ax F t) S=(AJ t (((Ah F (V t 0)).s S).1.1::(Eo t (Ax F t) ((Ah F (V t 0)).s S).1.2.1 (AH (Ae ((t.b.length:Int)-1=(((Ah F (V t 0)).s S).1.2.1.length:Nat))) t.m 7 ((Ah F (V t 0)).s S).2) (t.b.length-1)).1) ((Ah F (V t 0)).s S).1.2.2,(Eo t (Ax F t) ((Ah F (V t 0)).s S).1.2.1 (AH (Ae ((t.b.length:Int)-1=(((Ah F (V t 0)).s S).1.2.1.length:Nat))) t.m 7 ((Ah F (V t 0)).s S).2) (t.b.length-1)).2):=by unfold I3;rw [x0]
 rw [e];exact ⟨BR (t:=AJ t _ _) rfl hO.kd,h,g⟩
def Kg(e:Nat):Bool:=BM e 72 || (BM e 88 || (BM e 86 || (BM e 3 || BM e 24)))
def CG(X:List Nat)(e k:Nat):Bool:=Kg e && !Ae (k∈X)
@[reducible] def Qh(X:List Nat)(n0:Nat):H0:=⟨fun w w'=>AP (CG X) n0 w w',AP.refl (CG X) n0,fun h k=>AP.trans h k⟩
theorem AP.wide{X X':List Nat}{n0:Nat}{w w':Ad}(g:AP (CG X') n0 w w')(h:∀ j∈X,j∈X'):AP (CG X) n0 w w' :=
 ⟨g.os,g.tape,g.output,g.size,fun k hk hb=>g.block k hk (hb.imp id fun hn ⟨cs,e,fr,hr,hm⟩=>hn ⟨cs,e,fr,hr,by
 unfold CG at hm ⊢;simp only [DF,Bool.not_eq_true',CK] at hm ⊢;exact ⟨hm.1,fun hx=>hm.2 (h k hx)⟩⟩)⟩
theorem Hc{X X':List Nat}{n0:Nat}{a w w':Ad}(g:AP (CG X) n0 a w)(k:AP (CG X') n0 w w')(h:∀ j∈X,j∈X':=by intro j hj;simp [hj]):AP (CG X) n0 a w':=g.trans (k.wide h)
def UB(X:List Nat):List (Nat×Aw×List Ak)→Prop
 | []=>True
 | (b,e,_)::L=>(Kg e=false∨b∈X)∧UB X L
theorem BT.bk{X:List Nat}{n0:Nat}{w w':Ad}{L:List (Nat×Aw×List Ak)}(E:BT w L)(g:AP (CG X) n0 w w')(hL:UB X L:=by repeat' (first|exact BN|refine ⟨?_,?_⟩|exact .inl rfl|exact .inr BI)):BT w' L:=by
 have aa:∀ (L:List (Nat×Aw×List Ak)),UB X L→∀ b e l,(b,e,l)∈L→Kg e=false∨b∈X:=by
  intro L
  induction L with
  | nil=>intro _ b e l hm;cases hm
  | cons x L ih =>
   obtain ⟨b',e',l'⟩:=x;intro h b e l hm;rcases E1.1 hm with q|q;injection q with q1 q2;injection q2 with q2 _;subst q1 q2;exact h.1;exact ih h.2 b e l q
 refine ⟨E.1,Ov E.2 fun b e l hm h=>(g.block b h.lt (.inr fun ⟨cs,f,fr,hr,hM⟩=>?_)).trans h⟩;unfold Av at h;rw [h] at hr;injection hr with hr;injection hr with _ hr;subst hr;unfold CG at hM;simp only [DF,Bool.not_eq_true',CK] at hM;rcases aa L hL b e l hm with q|q;rw [q] at hM;exact Bool.noConfusion hM.1;exact hM.2 q
def LN(F:Nd)(fv:Ak)(ms mg mn mf:Nat)(sv cv rv:Ak):List Ak:=Cs F fv++[.map (some ms),.map (some mg),.map (some mn),.map (some mf),sv,cv,rv]
def H3(k:Nat)(pv:Ak)(y:Bu):Ak:=.agg #[.int .i64 k,pv,.int .i64 y.c,Co y.name]
def I7(d:Nd):List Bu:=(V d 0).b.map fun p=>(BF (V p 0)).1
def GX(d:Nd):Bu:=(BF (V d 1)).1
def EF(TB:List Nat)(w:Ad)(l:List Bu)(v:Ak):Prop:=∃ p c,v = .slice p l.length c∧(0<l.length→∃ b o cs fr,p=some ⟨b,o,none⟩∧b∈TB∧w.heap[b]? = some (.cells cs 24 fr)∧Cv w b o (l.flatMap Ea))
theorem EF.ac{TB:List Nat}{w w':Ad}{l:List Bu}{v:Ak}(h:EF TB w l v)(hs:∀ b∈TB,b<w.heap.size→(∃ cs fr,w.heap[b]? = some (.cells cs 24 fr))→w'.heap[b]? = w.heap[b]?):EF TB w' l v:=by
 obtain ⟨p,c,rfl,h⟩:=h;refine ⟨p,c,rfl,fun h0=>?_⟩;obtain ⟨b,o,cs,fr,rfl,hb,hh,hR⟩:=h h0;have e:=hs b hb (Dv.1 hh).1 ⟨cs,fr,hh⟩;exact ⟨b,o,cs,fr,rfl,hb,e.trans hh,fun i v hi=>(To e).trans (hR i v hi)⟩
structure Qp (F:Nd) (TB:List Nat) (ms mg mn mf:Nat) (pv:Nat→Ak) (w:Ad):Prop where
  hs:Dq w ms (DL 2 (fun _ _=>.bool true) F.b 0)
  hg:Dq w mg (DL 6 (fun _ d=>D3 (BF (V d 0)).1) F.b 0)
  hn:Dq w mn (DL 6 (fun k _=>.int .i64 k) F.b 0)
  hf:Dq w mf (DL 4 (fun k d=>H3 k (pv k) (GX d)) F.b 0)
  hp:∀ s,0≤(Bk F 4 s).2→EF TB w (I7 (Bk F 4 s).1) (pv (Bk F 4 s).2.toNat)
def V5(w:Ad):Prop:=Cv w 2 0 (Ea tInt)∧Cv w 3 0 (Ea tBool)∧Cv w 4 0 (Ea tNil)∧Cv w 6 0 (Ea ⟨5,[]⟩)∧Cv w 1 0 (Ea ⟨6,[]⟩)∧Cv w 5 0 (Ea tFunc)
structure FZ (n0:Nat) (w:Ad):Prop where
  hL:Laid w
  hT:M7 w
  hC:V5 w
  hG:10≤n0
  hn:n0≤w.heap.size
theorem FZ.hb{n0:Nat}{w:Ad}(h:FZ n0 w):10≤w.heap.size:=AN h.hG h.hn
theorem MT{w w':Ad}{b o:Nat}{l:List Ak}(h:Cv w b o l)(e:w'.heap[b]? = w.heap[b]?):Cv w' b o l:=fun i v hi=>(To e).trans (h i v hi)
theorem FZ.below{n0:Nat}{w w':Ad}(h:FZ n0 w)(g:Below n0 w w'):FZ n0 w':=by
 have hg:=h.hG;have s:∀ k,k<10→w'.heap[k]? = w.heap[k]?:=fun k hk=>g.block k O;obtain ⟨c1,c2,c3,c4,c5,c6⟩:=h.hC;exact ⟨h.hL.below h.hG g,MT h.hT (s _ Cb),⟨MT c1 (s _ Cb),MT c2 (s _ Cb),MT c3 (s _ Cb),MT c4 (s _ Cb),MT c5 (s _ Cb),MT c6 (s _ Cb)⟩,h.hG,AN h.hn g.size⟩
def Pu:Option (List Bu)→Bu→List Bu
 | none,_=>[]
 | some l,y=>l++[y]
structure EZ (F:Nd) (n0 b:Nat) (TB X:List Nat) (r0:Option (List Bu)) (S:An) (fv:Ak) (ms mg mn mf:Nat) (pv:Nat→Ak) (sv cv rv:Ak) (vs:List Ak) (sc:List (List DD)) (w:Ad):Prop where
  B:Av w b 72 (LN F fv ms mg mn mf sv cv rv)
  hb:n0≤b
  kF:Bo w (fun k=>k<n0) F.b fv
  hF:count F≤1000000
  T:Qp F TB ms mg mn mf pv w
  L:FZ n0 w
  so:w.ownsRow n0 86 1 sv vs.length vs
  sr:Gw 88 n0 w vs sc
  fl:sc.flatten=S.q
  sl:sc.length=S.k+1
  ss:∀ (i:Nat) (l:List DD),sc[i]? = some l→∀ v∈l,v.k=i
  co:w.ownsRow n0 3 1 cv (S.n+1) ((S.next.take (S.n+1)).map fun (k:Nat)=>Value.int .i64 (k:Int))
  ro:w.ownsRow n0 24 2 rv (Pu r0 S.o).length ((Pu r0 S.o).flatMap Ea)
  rl:∀ l,r0=some l→l.length=S.n
  tx:∀ j∈TB,j∈X
  xl:∀ j∈X,j<w.heap.size
  bx:b∉X
  sx:∀ k,sv.ownBlock=some k→k∉X
  vx:∀ (i:Nat) (v:Ak),vs[i]? = some v→∀ k,v.ownBlock=some k→k∉X
  cx:∀ k,cv.ownBlock=some k→k∉X
  rx:∀ k,rv.ownBlock=some k→k∉X
  sz:sc.length≤2000000
def CA(F:Nd)(n0 b:Nat)(TB X:List Nat)(r0:Option (List Bu))(S:An)(w:Ad):Prop:=∃ fv ms mg mn mf pv sv cv rv vs sc,EZ F n0 b TB X r0 S fv ms mg mn mf pv sv cv rv vs sc w
section
variable {F:Nd} {n0 b:Nat} {TB X:List Nat} {r0:Option (List Bu)} {S:An} {fv:Ak} {ms mg mn mf:Nat} {pv:Nat→Ak} {sv cv rv:Ak} {vs:List Ak} {sc:List (List DD)} {w w':Ad}
def Zr(X:List Nat)(w:Ad)(k:Nat):Prop:=(∃ cs e fr,w.heap[k]? = some (.cells cs e fr)∧Kg e=true)∧k∉X
theorem Rm{e:Aw}{z m:Nat}{v:Ak}{xs:List Ak}(h:w.ownsRow n0 e z v m xs)(he:Kg e=true)(hx:∀ k,v.ownBlock=some k→k∉X):∀ k,v.ownBlock=some k→k<w.heap.size∧Zr X w k:=fun k hk=>by
 refine ⟨(h.lt k hk).2,?_,hx k hk⟩;rcases h.2 with ⟨h1,_⟩|⟨g,aa,ab,h1,h2,h3,_⟩;rw [h1] at hk;cases hk;rw [h1] at hk;have:g=k:=by injection hk
 subst this;exact ⟨_,_,_,h3,he⟩
theorem EZ.fr(h:EZ F n0 b TB X r0 S fv ms mg mn mf pv sv cv rv vs sc w)(hz:w.heap.size≤w'.heap.size)(hB:Below n0 w w')
 (h1:∀ (k:Nat),k<w.heap.size→Zr X w k→w'.heap[k]? = w.heap[k]?) (h2:∀ k∈TB,k<w.heap.size→(∃ cs fr,w.heap[k]? = some (.cells cs 24 fr))→w'.heap[k]? = w.heap[k]?)
 (h3:∀ (k:Nat) (ms:Array MapEntry) (c:Nat),w.heap[k]? = some (Obj.map ms c)→w'.heap[k]? = w.heap[k]?):EZ F n0 b TB X r0 S fv ms mg mn mf pv sv cv rv vs sc w':=by
 have m:∀ {k es},Dq w k es→Dq w' k es:=fun hm=>hm.ac (by obtain ⟨ms,c,hb,_⟩:=hm;exact h3 _ _ _ hb)
 refine ⟨(h1 b h.B.lt ⟨⟨_,_,_,h.B,rfl⟩,h.bx⟩).trans h.B,h.hb,He h.kF (fun _ h _=>h) (fun k hk _=>hB.block k hk),h.hF,⟨m h.T.hs,m h.T.hg,m h.T.hn,m h.T.hf,fun s hs=>(h.T.hp s hs).ac h2⟩,h.L.below hB,
  Pq h.so fun k hk=>?_,h.sr.ac fun i v hv k hk=>?_,h.fl,h.sl,h.ss,Pq h.co fun k hk=>?_,Pq h.ro fun k hk=>?_,h.rl,h.tx,fun j hj=>Ei (h.xl j hj) hz,h.bx,h.sx,h.vx,h.cx,h.rx,h.sz⟩
 obtain ⟨q1,q2⟩:=Rm h.so rfl h.sx k hk;exact h1 k q1 q2;obtain ⟨l,_,hr⟩:=h.sr.ex hv;obtain ⟨q1,q2⟩:=Rm hr rfl (h.vx i v hv) k hk;exact h1 k q1 q2;obtain ⟨q1,q2⟩:=Rm h.co rfl h.cx k hk;exact h1 k q1 q2;obtain ⟨q1,q2⟩:=Rm h.ro rfl h.rx k hk;exact h1 k q1 q2
theorem EZ.a(h:EZ F n0 b TB X r0 S fv ms mg mn mf pv sv cv rv vs sc w)(g:G w w'):EZ F n0 b TB X r0 S fv ms mg mn mf pv sv cv rv vs sc w' :=
 h.fr g.size ⟨g.os,g.tape,g.output,g.size,fun k hk=>g.block (Ei hk h.L.hn)⟩ (fun k hk _=>g.block hk) (fun k _ hk _=>g.block hk) fun k ms c e=>g.block (Dv.1 e).1
theorem EZ.ai(h:EZ F n0 b TB X r0 S fv ms mg mn mf pv sv cv rv vs sc w){row:Option Nat}(hg:w.grownBy w' row)(hr:∀ k,row=some k→n0≤k∧(∃ cs e fr,w.heap[k]? = some (.cells cs e fr)∧(Kg e=false∨(k∈X∧k∉TB)))):EZ F n0 b TB X r0 S fv ms mg mn mf pv sv cv rv vs sc w':=by
 refine h.fr hg.size ⟨hg.os,hg.tape,hg.output,hg.size,fun k hk=>hg.block k (Ei hk h.L.hn) fun e=>by have:=(hr k e.symm).1;omega⟩ (fun k hk ho=>hg.block k hk fun e=>?_) (fun k hT hk ⟨cs,fr,hc⟩=>hg.block k hk fun e=>?_) fun k ms c hm=>hg.block k (Dv.1 hm).1 fun e=>?_;obtain ⟨_,cs,f,fr,h1,h2⟩:=hr k e.symm;obtain ⟨⟨aa,f',ab,h3,h4⟩,h5⟩:=ho;rcases h2 with h2|h2;rw [h1] at h3;injection h3 with h3;injection h3 with _ h3;subst h3;rw [h2] at h4;cases h4;exact h5 h2.1;obtain ⟨_,aa,f,ab,h1,h2⟩:=hr k e.symm;rcases h2 with h2|h2;rw [hc] at h1;injection h1 with h1;injection h1 with _ h1;subst h1;exact Bool.noConfusion (show true=false from h2);exact h2.2 hT;obtain ⟨_,aa,f,ab,h1,_⟩:=hr k e.symm;rw [hm] at h1;injection h1 with h1;cases h1
theorem EZ.A(h:EZ F n0 b TB X r0 S fv ms mg mn mf pv sv cv rv vs sc w){j:Nat}{e:Aw}{l:List Ak}(hg:w.grownBy w' (some j))(hB:Av w j e l)(hj:n0≤j)(he:Kg e=false∨(j∈X∧j∉TB)):EZ F n0 b TB X r0 S fv ms mg mn mf pv sv cv rv vs sc w' :=
 h.ai hg fun k hk=>by injection hk with hk;subst hk;exact ⟨hj,_,_,_,hB,he⟩
theorem EZ.ak(h:EZ F n0 b TB X r0 S fv ms mg mn mf pv sv cv rv vs sc w){j:Nat}{e:Aw}{l:List Ak}(N:Ks w w' j e l):EZ F n0 b TB (j::X) r0 S fv ms mg mn mf pv sv cv rv vs sc w':=by
 have k:=h.a N.g
 have hj:∀ {i:Nat},i<w.heap.size→i∉X→i∉j::X:=fun hi hx hm=>by
  rcases E1.1 hm with q|q;have:=N.j;omega;exact hx q
 exact ⟨k.B,k.hb,k.kF,k.hF,k.T,k.L,k.so,k.sr,k.fl,k.sl,k.ss,k.co,k.ro,k.rl,fun i hi=>Gx _ (k.tx i hi),fun i hi=>by
  rcases E1.1 hi with q|q;subst q;exact N.p.lt;exact k.xl i q,hj h.B.lt h.bx,fun i hi=>hj (h.so.lt i hi).2 (h.sx i hi),fun i v hv q hq=>hj (h.sr.lt hv q hq).2 (h.vx i v hv q hq),fun i hi=>hj (h.co.lt i hi).2 (h.cx i hi),fun i hi=>hj (h.ro.lt i hi).2 (h.rx i hi),h.sz⟩
theorem EZ.sub(h:EZ F n0 b TB X r0 S fv ms mg mn mf pv sv cv rv vs sc w){Y:List Nat}(hT:∀ j∈TB,j∈Y)(hY:∀ j∈Y,j∈X):EZ F n0 b TB Y r0 S fv ms mg mn mf pv sv cv rv vs sc w :=
 ⟨h.B,h.hb,h.kF,h.hF,h.T,h.L,h.so,h.sr,h.fl,h.sl,h.ss,h.co,h.ro,h.rl,hT,fun j hj=>h.xl j (hY j hj),fun hm=>h.bx (hY _ hm),fun k hk hm=>h.sx k hk (hY _ hm),fun i v hv k hk hm=>h.vx i v hv k hk (hY _ hm),fun k hk hm=>h.cx k hk (hY _ hm),fun k hk hm=>h.rx k hk (hY _ hm),h.sz⟩
theorem EZ.pc(h:EZ F n0 b TB X r0 S fv ms mg mn mf pv sv cv rv vs sc w):CA F n0 b TB X r0 S w:=⟨_,_,_,_,_,_,_,_,_,_,_,h⟩
theorem CA.a(h:CA F n0 b TB X r0 S w)(g:G w w'):CA F n0 b TB X r0 S w':=by obtain ⟨_,_,_,_,_,_,_,_,_,_,_,h⟩:=h;exact (h.a g).pc
theorem CA.ai(h:CA F n0 b TB X r0 S w){row:Option Nat}(hg:w.grownBy w' row)(hr:∀ k,row=some k→n0≤k∧(∃ cs e fr,w.heap[k]? = some (.cells cs e fr)∧(Kg e=false∨(k∈X∧k∉TB)))):CA F n0 b TB X r0 S w':=by obtain ⟨_,_,_,_,_,_,_,_,_,_,_,h⟩:=h;exact (h.ai hg hr).pc
theorem CA.A(h:CA F n0 b TB X r0 S w){j:Nat}{e:Aw}{l:List Ak}(hg:w.grownBy w' (some j))(hB:Av w j e l)(hj:n0≤j)(he:Kg e=false∨(j∈X∧j∉TB)):CA F n0 b TB X r0 S w':=by obtain ⟨_,_,_,_,_,_,_,_,_,_,_,h⟩:=h;exact (h.A hg hB hj he).pc
theorem CA.ak(h:CA F n0 b TB X r0 S w){j:Nat}{e:Aw}{l:List Ak}(N:Ks w w' j e l):CA F n0 b TB (j::X) r0 S w':=by obtain ⟨_,_,_,_,_,_,_,_,_,_,_,h⟩:=h;exact (h.ak N).pc
theorem CA.sub(h:CA F n0 b TB X r0 S w){Y:List Nat}(hT:∀ j∈TB,j∈Y)(hY:∀ j∈Y,j∈X):CA F n0 b TB Y r0 S w:=by obtain ⟨_,_,_,_,_,_,_,_,_,_,_,h⟩:=h;exact (h.sub hT hY).pc
theorem CA.lt(h:CA F n0 b TB X r0 S w):n0≤b∧b<w.heap.size:=by obtain ⟨_,_,_,_,_,_,_,_,_,_,_,h⟩:=h;exact ⟨h.hb,h.B.lt⟩
theorem CA.tb(h:CA F n0 b TB X r0 S w):(∀ j∈TB,j∈X)∧∀ j∈X,j<w.heap.size:=by obtain ⟨_,_,_,_,_,_,_,_,_,_,_,h⟩:=h;exact ⟨h.tx,h.xl⟩
theorem CA.laid(h:CA F n0 b TB X r0 S w):FZ n0 w:=by obtain ⟨_,_,_,_,_,_,_,_,_,_,_,h⟩:=h;exact h.L
theorem CA.nx(h:CA F n0 b TB X r0 S w):b∉X:=by obtain ⟨_,_,_,_,_,_,_,_,_,_,_,h⟩:=h;exact h.bx
theorem CA.a2(h:CA F n0 b TB X r0 S w):DX S:=by
 obtain ⟨_,_,_,_,_,_,_,_,_,_,aa,h⟩:=h;intro v hv;rw [← h.fl] at hv;obtain ⟨l,hl,hv⟩:=List.mem_flatten.1 hv;obtain ⟨i,hi,rfl⟩:=List.getElem_of_mem hl;have:=h.ss i _ (I4 hi) v hv;have:=h.sl;omega
end
end Go.Rk
namespace Go.Rk
open Go.Proofs
open Go Go.RowKit Go.ChangeShapes
theorem yX{C':Type}{enc:Aw×Ak→C'}{P:BH}{w:Ad}{base:Nat}{sp:Nat→Bool}{held:Bool}{aa:Nat}{t:Aw}{f0 f1:Field}{cs:List Ak}{k:Int}{s:List UInt8}{p:List MemPlace}
 (ht:P.underlying t=some (.struct #[f0,f1])) (h0:P.underlying f0.type=some (.int .i64)) (h1:P.underlying f1.type=some .string) (o0:f0.offset=0) (o1:f1.offset=1) (c0:P.cellsOf f0.type=1) (c1:P.cellsOf f1.type=1) (ct:P.cellsOf t=2)
 (h:DataW.trod enc P w base sp held aa t cs=some (.agg [.lit (.int .i64 k),.lit (.string s)],p)):cs=[.int .i64 k,Co s]:=by
 obtain ⟨y0,y1,n,hx,hl,ha,hb⟩:=trod_struct2 ht h;rw [ct] at hl;rw [o0,c0,G0] at ha;rw [o1,c1] at hb;obtain ⟨m,e0,ab,_⟩:=DataW.trod_int h0 ha;obtain ⟨b,e1,ac,_⟩:=DataW.trod_string h1 hb;subst ab ac
 match cs,hl with
 | [u,v],_ =>
  have q0:[u]=[Value.int .i64 m]:=e0;have q1:[v]=[Value.string b]:=e1;injection q0 with q0 _;injection q1 with q1 _;rw [q0,q1];clear e0 e1 ha hb h;injection hx with hx _;injection hx with hx;injection hx with h2 h3;injection h3 with h3 _;injection h2 with h2;injection h2 with _ h2;injection h3 with h3;injection h3 with h3;rw [h2,h3]
def dP(P:BH)(t:Aw):Bool:=match P.underlying t with
 | some (.struct fs)=>(match fs.toList with
  | [f0,f1]=>(match P.underlying f0.type with|some (.int .i64)=>true|_=>false)&&((match P.underlying f1.type with|some .string=>true|_=>false)&&(BM f0.offset 0&&(BM f1.offset 1&&(BM (P.cellsOf f0.type) 1&&(BM (P.cellsOf f1.type) 1&&BM (P.cellsOf t) 2)))))
  | _=>false)
 | _=>false
theorem Qu{C':Type}{enc:Aw×Ak→C'}{P:BH}{w:Ad}{base:Nat}{sp:Nat→Bool}{held:Bool}{aa:Nat}{t:Aw}{cs:List Ak}{k:Int}{s:List UInt8}{p:List MemPlace}
 (ht:dP P t=true) (h:DataW.trod enc P w base sp held aa t cs=some (.agg [.lit (.int .i64 k),.lit (.string s)],p)):cs=[.int .i64 k,Co s]:=by
 unfold dP at ht;split at ht;rename_i fs hu;split at ht;rename_i f0 f1 hf;simp only [DF] at ht;obtain ⟨a0,a1,a2,a3,a4,a5,a6⟩:=ht;have ab:fs = #[f0,f1]:=by rw [← Array.toArray_toList (xs:=fs),hf]
 subst ab;refine yX hu ?_ ?_ (CQ a2) (CQ a3) (CQ a4) (CQ a5) (CQ a6) h;split at a0;assumption;cases a0;split at a1;assumption;cases a1;cases ht;cases ht
end Go.Rk
namespace Go.Rk
open Go.Proofs
open Go Go.RowKit Go.ChangeShapes Go.WideShapes
end Go.Rk
namespace Go.Rk
open Go.Proofs
open Go Go.RowKit Go.ChangeShapes Go.WideShapes Go.ChangeAt
theorem bE{C':Type}{enc:Aw×Ak→C'}{P:BH}{w:Ad}{base:Nat}{sp:Nat→Bool}{held:Bool}{aa:Nat}{t e:Aw}{n:Nat}{cs:List Ak}{ls:List (List UInt8)}{p:List MemPlace}
 (ht:P.underlying t=some (.array n e)) (he:P.underlying e=some .string) (ad:P.cellsOf e=1) (ae:P.cellsOf t=n)
 (h:DataW.trod enc P w base sp held aa t cs=some (.agg (ls.map fun l=>.lit (.string l)),p)):cs=ls.map Co:=by
 cases aa with
 | zero=>simp [DataW.trod] at h
 | succ aa =>
  simp only [DataW.trod,ht,ad,ae,Nat.mul_one] at h;split at h;rename_i hl;obtain ⟨xs,hm,hx⟩:=QV.1 h
  have ab:xs.map (·.1)=ls.map fun l=>(DataW.lit (.string l):DataW C'):=by
   have:=congrArg Prod.fst hx;simpa using this
  have af:xs.length=n:=by simpa using Lib.mapM_length hm
  have ag:ls.length=n:=by
   have:=congrArg List.length ab;simp at this;omega
  apply List.ext_getElem?;intro i;by_cases hi:i<n;obtain ⟨b,hb,hf⟩:=Lib.mapM_at hm i i (by simp [hi]);obtain ⟨s,hc,rfl,_⟩:=DataW.trod_string he hf
  have h1:cs[i]? = some (.string s):=by
   have:=congrArg (·[0]?) hc;simpa [List.getElem?_take,List.getElem?_drop] using this
  have h2:(xs.map (·.1))[i]? = some (DataW.lit (.string s.data.toList):DataW C'):=by simp [hb]
  rw [ab] at h2;simp only [Jm,QV,DataW.lit.injEq,Lit.string.injEq] at h2;obtain ⟨z',ac,e⟩:=h2;rw [h1];simp [ac,e];rw [RN O,RN (by simp;omega)];cases h
theorem NJ{P:BH}{x:String×DataW Unit}{r:List (String×DataW Unit)}{W:Ad}{g:Nat}{t:Aw}(h:laidMet P (x::r) W)(hg:P.globalNamed x.1=some g)(ht:(P.globals[g]?).map (·.type)=some t) :
 ∃ cs fuel p,W.var? P x.1=some cs∧DataW.trod (fun _=>()) P W 0 (fun _=>true) false fuel t cs.toList=some (x.2,p):=by
 obtain ⟨n,d⟩:=x;obtain ⟨ps,⟨g',t',cs,fuel,p,q,ac,ab,aa,hd,_,_⟩,_⟩:=h;obtain rfl:=EM (hg.symm.trans ac);obtain rfl:=EM (ht.symm.trans ab);exact ⟨cs,fuel,p,aa,hd⟩
abbrev Pc:List (String×DataW Unit):=Go.Proofs.YtddkmmfmmamipaaGreatDoor.Rows.minimizeCutsMatchReferenceRow.laid
theorem tL{W:Ad}(h:laidMetH Aj Pc W):Laid W:=by
 have h0:laidMet Aj Pc W:=h;obtain ⟨cs,af,p,hv,hd⟩:=NJ h0.tail.tail.tail.tail.tail (g:=7) (t:=137) Ai Ai;have hc:cs.toList=Hn.map Co:=bE (n:=27) (e:=9) Ai Ai Ai Ai hd;obtain ⟨ag,aa,p2,ae,ac⟩:=NJ h0.tail.tail.tail (g:=9) (t:=134) Ai Ai;obtain ⟨ms,ad⟩:∃ ms,Aj.underlying 134=some (.interface ms):=Go.underlying_of_isIface YC;obtain ⟨f',u,v,ab,_⟩:=iface_of_trod ad ac;refine ⟨fun j v hj=>?_,?_⟩;have:=World.var?_cell (by kernel_rfl:Aj.globalNamed _=some 7) hv j;rw [Dg,this,← hj,← hc];simp;have:=World.var?_cell (by kernel_rfl:Aj.globalNamed _=some 9) ae 0;refine ⟨.iface u v,?_,.inr ⟨_,_,rfl⟩⟩;rw [this,← Eb,ab];rfl
theorem gY{W:Ad}(h:Laid W):10≤W.heap.size:=by
 obtain ⟨ev,h1,_⟩:=h.err;exact Ez W _ h1
theorem iN{W:Ad}(h:laidMetH Aj Pc W):M7 W:=by
 have h0:laidMet Aj Pc W:=h;obtain ⟨cs,aa,p,hv,hd⟩:=NJ h0.tail.tail.tail.tail.tail.tail (g:=0) (t:=100) Ai Ai;have hc:cs.toList=J1.map Co:=bE (n:=13) (e:=9) Ai Ai Ai Ai hd;intro j v hj;have:=World.var?_cell (by kernel_rfl:Aj.globalNamed _=some 0) hv j;rw [Dg,this,← hj,← hc];simp
theorem lC{W:Ad}(h:laidMetH Aj Pc W):V5 W:=by
 have h0:laidMet Aj Pc W:=h;obtain ⟨a0,ai,p0,ak,ao⟩:=NJ h0.tail.tail.tail.tail.tail.tail.tail (g:=2) (t:=24) Ai Ai;have ax:=Qu Ai ao;obtain ⟨a4,aa,p1,al,ap⟩:=NJ h0.tail.tail.tail.tail.tail.tail.tail.tail (g:=3) (t:=24) Ai Ai;have ag:=Qu Ai ap;obtain ⟨a1,ad,p2,av,aj⟩:=NJ h0.tail.tail.tail.tail.tail.tail.tail.tail.tail (g:=4) (t:=24) Ai Ai;have ah:=Qu Ai aj;obtain ⟨a3,af,p3,ac,az⟩:=NJ h0.tail.tail.tail.tail.tail.tail.tail.tail.tail.tail (g:=6) (t:=24) Ai Ai;have aw:=Qu Ai az;obtain ⟨a2,am,p4,ar,ab⟩:=NJ h0.tail.tail.tail.tail.tail.tail.tail.tail.tail.tail.tail (g:=1) (t:=24) Ai Ai;have an:=Qu Ai ab;obtain ⟨a5,ae,p5,au,aq⟩:=NJ h0.tail.tail.tail.tail.tail.tail.tail.tail.tail.tail.tail.tail (g:=5) (t:=24) Ai Ai;have ay:=Qu Ai aq
 exact ⟨(fun j v hj=>by
  have:=World.var?_cell (by kernel_rfl:Aj.globalNamed _=some 2) ak j;rw [Dg,this,← Eb,ax];exact hj),(fun j v hj=>by
  have:=World.var?_cell (by kernel_rfl:Aj.globalNamed _=some 3) al j;rw [Dg,this,← Eb,ag];exact hj),(fun j v hj=>by
  have:=World.var?_cell (by kernel_rfl:Aj.globalNamed _=some 4) av j;rw [Dg,this,← Eb,ah];exact hj),(fun j v hj=>by
  have:=World.var?_cell (by kernel_rfl:Aj.globalNamed _=some 6) ac j;rw [Dg,this,← Eb,aw];exact hj),(fun j v hj=>by
  have:=World.var?_cell (by kernel_rfl:Aj.globalNamed _=some 1) ar j;rw [Dg,this,← Eb,an];exact hj),(fun j v hj=>by
  have:=World.var?_cell (by kernel_rfl:Aj.globalNamed _=some 5) au j;rw [Dg,this,← Eb,ay];exact hj)⟩
end Go.Rk
namespace Go.Proofs.YtddkmmfmmamipaaGreatDoor
open Go Go.RowKit Go.ChangeShapes Go.WideShapes Go.ChangeAt Go.Rk
theorem own:ownKnob Tryz.prog.godebug=none:=Ai
def YS:DataW Unit→Ak
 | .lit (.int k z)=>.int k z
 | .lit (.string s)=>.string ⟨s.toArray⟩
 | _=>.nilIface
def cellsOf:DataW Unit→Array Ak
 | .agg l=>(l.map YS).toArray
 | _=>#[]
def Y0:DataW Unit→Ak
 | .iface _ (.ptr (.agg [d]))=>YS d
 | _=>.nilIface
def put(h:Array Obj)(g:Nat)(cs:Array Ak):Array Obj:=h.modify g fun
 | .cells _ t frozen=>.cells cs t frozen
 | o=>o
noncomputable def UU(os:Os):Ad :=
 let N:=(World.settled Tryz.prog os).heap.size
 let w0:=World.holding Tryz.prog os ⟨#[.cells #[Y0 Rows.laid_strconv_ErrSyntax] 158,.cells #[Y0 Rows.laid_strconv_ErrRange] 158],#[],[]⟩
 let h0:=put w0.heap 0 (cellsOf Rows.laid_interleave_types_texts)
 let h1:=put h0 1 (cellsOf Rows.laid_interleave_check_tChan)
 let h2:=put h1 2 (cellsOf Rows.laid_interleave_check_tInt)
 let h3:=put h2 3 (cellsOf Rows.laid_interleave_check_tBool)
 let h4:=put h3 4 (cellsOf Rows.laid_interleave_check_tNil)
 let h5:=put h4 5 (cellsOf Rows.laid_interleave_check_tFunc)
 let h6:=put h5 6 (cellsOf Rows.laid_interleave_check_tSlice)
 let h7:=put h6 7 (cellsOf Rows.laid_interleave_scan_operators)
 let h8:=put h7 8 #[.iface 156 (.pointer (some ⟨N,0,none⟩))]
 let h9:=put h8 9 #[.iface 156 (.pointer (some ⟨N+1,0,none⟩))]
 let h10:=put h9 10 (cellsOf Rows.laid_internal_strconv_uint64pow10)
 let h11:=put h10 11 (cellsOf Rows.laid_math_bits_deBruijn32tab)
 let h12:=put h11 12 (cellsOf Rows.laid_math_bits_deBruijn64tab)
 { w0 with heap:=h12 }
end Go.Proofs.YtddkmmfmmamipaaGreatDoor
namespace Go.Rk
open Go.Proofs
open Go Go.RowKit
def Kz(z:Int):Prop := -9223372036854775808≤z∧z≤9223372036854775807
def Ot(t:Nd):Prop:=Iq (fun t l=>Kz t.c∧Kz t.num∧Kz t.m∧Kz t.ty.c∧Kz t.ref∧Kz t.up∧∀ p∈l,p) t
theorem iQ(t:Nd):Ot t=(Kz t.c∧Kz t.num∧Kz t.m∧Kz t.ty.c∧Kz t.ref∧Kz t.up∧∀ p∈t.b.map Ot,p):=Lh _ t
def Ma(t:Nd):Nat:=Iq (fun t l=>1+t.i.length+l.sum) t
theorem dQ(t:Nd):Ma t=1+t.i.length+(t.b.map Ma).sum:=Lh _ t
theorem nQ:∀ t,count t≤Ma t:=by
 refine Nd.ao fun t ih=>?_
 have:∀ (l:List Nd),(∀ k∈l,count k≤Ma k)→(l.map count).sum≤(l.map Ma).sum:=by
  intro l
  induction l with
  | nil=>intro _;simp
  | cons a l ihl=>intro h;have:=h a Hf;have:=ihl fun k hk=>h k (Gx _ hk);simp;omega
 rw [Iy,dQ];have:=this t.b ih;omega
end Go.Rk
namespace Go.Rk
open Go.Proofs
open Go Go.RowKit Go.ChangeShapes Go.WideShapes
abbrev bulk{C':Type}:DataW C'→Nat:=Go.Proofs.YtddkmmfmmamipaaGreatDoor.Rows.uptoBulk
abbrev Ky{C':Type}:List (DataW C')→Nat:=Go.Proofs.YtddkmmfmmamipaaGreatDoor.Rows.uptoBulkAll
theorem TY{C':Type}:∀ (l:List (DataW C')) (d:DataW C'),d∈l→bulk d≤Ky l
 | [],d,h=>by cases h
 | x::l,d,h=>by
  simp only [bulk,Ky,Go.Proofs.YtddkmmfmmamipaaGreatDoor.Rows.uptoBulkAll];rcases E1.1 h with rfl|h;omega;have:=TY l d h;simp only [bulk,Ky] at this;omega
theorem bX{C':Type}:∀ (l m:List (DataW C')),Ky (l++m)=Ky l+Ky m
 | [],m=>by simp [Ky,Go.Proofs.YtddkmmfmmamipaaGreatDoor.Rows.uptoBulkAll]
 | x::l,m=>by
  have:=bX l m;simp only [Ky,List.cons_append,Go.Proofs.YtddkmmfmmamipaaGreatDoor.Rows.uptoBulkAll] at this ⊢;omega
theorem Qg:Aj.underlying 3=some (.int .i64):=Ai
theorem cG:Aj.underlying 9=some .string:=Ai
theorem cI:Aj.cellsOf 3=1:=Ai
theorem bJ:Aj.cellsOf 9=1:=Ai
noncomputable def Pr(t:Aw):Option (List (Nat×Nat)):=match Aj.underlying t with|some (.struct fs)=>some (fs.toList.map fun f=>(f.type,f.offset))|_=>none
theorem oO{t:Aw}{L:List (Nat×Nat)}(hL:Pr t=some L):∃ fs,Aj.underlying t=some (.struct fs):=by
 unfold Pr at hL;split at hL;rename_i fs aa;exact ⟨fs,aa⟩;cases hL
theorem Ya{α:Type}{l:List α}(h:l.length=2):∃ a b,l=[a,b]:=by
 match l,h with
 | [a,b],_=>exact ⟨a,b,rfl⟩
theorem rI{α:Type}{l:List α}(h:l.length=8):∃ a b c d e f g i,l=[a,b,c,d,e,f,g,i]:=by
 match l,h with
 | [a,b,c,d,e,f,g,i],_=>exact ⟨a,b,c,d,e,f,g,i,rfl⟩
theorem iF{α:Type}{l:List α}(h:l.length=9):∃ a b c d e f g i j,l=[a,b,c,d,e,f,g,i,j]:=by
 match l,h with
 | [a,b,c,d,e,f,g,i,j],_=>exact ⟨a,b,c,d,e,f,g,i,j,rfl⟩
section
variable {C':Type} {enc:Aw×Ak→C'} {w:Ad} {base:Nat} {sp:Nat→Bool} {held:Bool}
theorem Wk{t:Aw}{L:List (Nat×Nat)}(hL:Pr t=some L){aa:Nat}{cs:List Ak}{x:DataW C'×List MemPlace}(h:DataW.trod enc Aj w base sp held aa t cs=some x) :
 ∃ (xs:List (DataW C'×List MemPlace)) (n:Nat),x=(.agg (xs.map (·.1)),xs.flatMap (·.2))∧cs.length=Aj.cellsOf t∧xs.length=L.length∧
 ∀ (i ty o:Nat),L[i]? = some (ty,o)→DataW.trod enc Aj w base sp held n ty ((cs.drop o).take (Aj.cellsOf ty))=xs[i]?:=by
 unfold Pr at hL;split at hL;rename_i fs ab;injection hL with hL;obtain ⟨xs,n,rfl,rfl,hl,ac,hx⟩:=DataW.trod_struct ab h;refine ⟨xs,n,rfl,hl,by rw [← hL,ac];simp,fun i ty o hi=>?_⟩;rw [← hL,Jm] at hi
 cases hq:fs.toList[i]? with
 | none=>rw [hq] at hi;cases hi
 | some f =>
  rw [hq] at hi;simp only [Ka,Option.some.injEq,Prod.mk.injEq] at hi;obtain ⟨rfl,rfl⟩:=hi;exact hx i f (by rw [← Eb];exact hq)
 cases hL
theorem PH{z:Int}(h:(Lit.int .i64 z).wf=true):Kz z:=by
 simp only [Lit.wf,DF,BQ] at h;exact h
theorem sQ:Pr 24=some [(3,0),(9,1)]:=Ai
theorem Zg:Aj.cellsOf 24=2:=Ai
theorem qG{aa:Nat}{cs:List Ak}{x:DataW C'×List MemPlace}(h:DataW.trod enc Aj w base sp held aa 24 cs=some x):∃ y:Bu,cs=Ea y∧Kz y.c∧y.name.length+1≤bulk x.1:=by
 obtain ⟨xs,n,rfl,hl,ab,hx⟩:=Wk sQ h;rw [Zg] at hl;have h0:=hx 0 _ _ rfl;have h1:=hx 1 _ _ rfl;rw [cI] at h0;rw [bJ] at h1;obtain ⟨v0,v1,rfl⟩:=Ya hl;obtain ⟨y0,y1,rfl⟩:=Ya ab;skip;simp only [G0,Rh,J9,RQ,XD,bN] at h0 h1;obtain ⟨z0,c0,rfl,w0⟩:=DataW.trod_int Qg h0;obtain ⟨s1,c1,rfl,_⟩:=DataW.trod_string cG h1;injection c0 with c0 _;injection c1 with c1 _;subst c0 c1;refine ⟨⟨z0,s1.data.toList⟩,rfl,PH w0,?_⟩;simp [bulk,Go.Proofs.YtddkmmfmmamipaaGreatDoor.Rows.uptoBulk,Go.Proofs.YtddkmmfmmamipaaGreatDoor.Rows.uptoBulkAll];omega
theorem WG:Pr 26=some [(3,0),(9,1),(3,2),(3,3),(22,4),(24,5),(3,7),(3,8)]:=Ai
theorem dH:Aj.cellsOf 26=9:=Ai
theorem sJ:Aj.cellsOf 22=1:=Ai
theorem vO:Aj.underlying 22=some (.slice 26):=Ai
theorem Y7{w:Ad}{b:Nat}{D:Nat→Prop}:∀ (l:List Nd) (o:Nat),(∀ i,(h:i<l.length)→∃ v,Cv w b (o+i*9) (Cs l[i] v)∧Bo w D l[i].b v)→∃ xs,Cv w b o xs∧D8 w D l xs
 | [],o,_=>⟨[],fun j v hj=>by simp at hj,rfl⟩
 | t::l,o,h=>by
  obtain ⟨v0,h0,k0⟩:=h 0 BI
  obtain ⟨xs,ih,kx⟩:=Y7 l (o+9) (fun i hi=>by
   obtain ⟨v,h1,h2⟩:=h (i+1) (by simpa using hi);rw [show o+(i+1)*9=o+9+i*9 by omega] at h1;exact ⟨v,by simpa using h1,by simpa using h2⟩)
  refine ⟨Cs t v0++xs,fun j v hj=>?_,F2 (by simpa using k0) kx⟩;by_cases hj9:j<9;rw [List.getElem?_append_left (by simpa [Cs] using hj9)] at hj;exact h0 j v (by simpa using hj);rw [List.getElem?_append_right (by simp [Cs];omega)] at hj;have:=ih (j-9) v (by simpa [Cs] using hj);rw [show o+9+(j-9)=o+j by omega] at this;exact this
theorem uT:∀ (N fuel:Nat) (cs:List Ak) (x:DataW C'×List MemPlace),bulk x.1≤N→DataW.trod enc Aj w base sp held fuel 26 cs=some x→
    ∃ (t:Nd) (v:Ak),cs=Cs t v∧Bo w (fun _=>True) t.b v∧Ot t∧Ma t≤bulk x.1:=by
  intro N
  induction N with
  | zero =>
    intro fuel cs x hb h
    obtain ⟨xs,n,rfl,_⟩:=Wk WG h
    simp [bulk,Go.Proofs.YtddkmmfmmamipaaGreatDoor.Rows.uptoBulk] at hb
  | succ N ih =>
    intro fuel cs x hb h
    obtain ⟨xs,n,rfl,hl,am,hx⟩:=Wk WG h
    rw [dH] at hl
    have h0:=hx 0 _ _ rfl
    have h1:=hx 1 _ _ rfl
    have h2:=hx 2 _ _ rfl
    have h3:=hx 3 _ _ rfl
    have h4:=hx 4 _ _ rfl
    have h5:=hx 5 _ _ rfl
    have h6:=hx 6 _ _ rfl
    have h7:=hx 7 _ _ rfl
    rw [cI] at h0 h2 h3 h6 h7
    rw [bJ] at h1
    rw [sJ] at h4
    rw [Zg] at h5
    obtain ⟨v0,v1,v2,v3,v4,v5,a2,v6,v7,rfl⟩:=iF hl
    obtain ⟨y0,y1,y2,y3,y4,y5,y6,y7,rfl⟩:=rI am
    · skip
      simp only [G0,Rh,J9,RQ,XD,bN] at h0 h1 h2 h3 h4 h5 h6 h7
      obtain ⟨z0,c0,rfl,w0⟩:=DataW.trod_int Qg h0
      obtain ⟨s1,c1,rfl,_⟩:=DataW.trod_string cG h1
      obtain ⟨z2,c2,rfl,w2⟩:=DataW.trod_int Qg h2
      obtain ⟨z3,c3,rfl,w3⟩:=DataW.trod_int Qg h3
      obtain ⟨z6,c6,rfl,w6⟩:=DataW.trod_int Qg h6
      obtain ⟨z7,c7,rfl,w7⟩:=DataW.trod_int Qg h7
      obtain ⟨y,cy,wy,_⟩:=qG h5
      injection c0 with c0 _; injection c1 with c1 _; injection c2 with c2 _; injection c3 with c3 _; injection c6 with c6 _; injection c7 with c7 _
      simp only [Ea,List.cons.injEq,and_true] at cy
      obtain ⟨au,al⟩:=cy
      subst c0 c1 c2 c3 c6 c7 au al
      have ai:bulk y4.1≤N:=by
        simp only [bulk,Go.Proofs.YtddkmmfmmamipaaGreatDoor.Rows.uptoBulk,Go.Proofs.YtddkmmfmmamipaaGreatDoor.Rows.uptoBulkAll,EG,Gz] at hb ⊢;omega
      have done:∀ (ks:List Nd),Bo w (fun _=>True) ks v4→(∀ k∈ks,Ot k)→(ks.map Ma).sum≤bulk y4.1→
          ∃ (t:Nd) (v:Ak),[Value.int .i64 z0,.string s1,.int .i64 z2,.int .i64 z3,v4,.int .i64 y.c,Co y.name,.int .i64 z6,.int .i64 z7]=Cs t v∧Bo w (fun _=>True) t.b v∧Ot t∧Ma t≤bulk (DataW.agg (List.map (·.1) [((.lit (.int .i64 z0):DataW C'),([]:List MemPlace)),(.lit (.string s1.data.toList),[]),(.lit (.int .i64 z2),[]),(.lit (.int .i64 z3),[]),y4,y5,(.lit (.int .i64 z6),[]),(.lit (.int .i64 z7),[])])):=by
        intro ks hk ar hc
        refine ⟨.mk z0 s1.data.toList z2 z3 ks y z6 z7,v4,rfl,hk,?_,?_⟩
        · rw [iQ]
          refine ⟨PH w0,PH w2,PH w3,wy,PH w6,PH w7,fun p hp=>?_⟩
          obtain ⟨k,av,rfl⟩:=Ke.1 hp
          exact ar k av
        · rw [dQ]
          simp only [bulk,Go.Proofs.YtddkmmfmmamipaaGreatDoor.Rows.uptoBulk,Go.Proofs.YtddkmmfmmamipaaGreatDoor.Rows.uptoBulkAll,EG,Gz] at hc ⊢
          show 1 + s1.data.toList.length + (ks.map Ma).sum ≤ _
          omega
      rcases Go.Deep.open_slice vO h4 with ⟨e4,rfl⟩|⟨a,len,az,m,n',D,wW,e4,a1,a0,a4,aq,rfl,ah⟩
      · injection e4 with e4 _
        subst e4
        exact done [] (Me w _) (fun k hk=>by cases hk) (Fe _)
      · injection e4 with e4 _
        subst e4
        have a3:len≤m:=by rw [aq];split <;> omega
        rw [dH] at ah
        have ay:Ky ((Cl len).map D)+1≤bulk (DataW.slice ((Cl len).map D) ((Cl (m-len)).map fun j=>D (len+j))):=by
          simp only [bulk,Ky,Go.Proofs.YtddkmmfmmamipaaGreatDoor.Rows.uptoBulk];omega
        have ad:∀ k,k≤len→∃ l:List Nd,l.length=k∧(∀ i,(h:i<l.length)→∃ v,w.cells? base (a.add (i*9)) 9=some (Cs l[i] v)∧Bo w (fun _=>True) l[i].b v)∧(∀ t∈l,Ot t)∧(l.map Ma).sum≤Ky ((Cl k).map D):=by
          intro k
          induction k with
          | zero=>intro _;exact ⟨[],rfl,fun i hi=>by simp at hi,fun t ht=>(by cases ht),Fe _⟩
          | succ k ihk =>
            intro hk
            obtain ⟨l,aa,ab,ac,af⟩:=ihk O
            obtain ⟨an,q1,q2⟩:=ah k O
            have aj:bulk (D k)≤N:=by
              have:=TY ((Cl len).map D) (D k) (List.mem_map_of_mem (GB.2 O))
              simp only [] at ai; omega
            obtain ⟨t,v,rfl,kt,ot,ct⟩:=ih n' an _ aj q2
            refine ⟨l++[t],by simp [aa],fun i hi=>?_,fun u hu=>?_,?_⟩
            · by_cases hik:i<l.length
              · obtain ⟨v',e1,e2⟩:=ab i hik
                rw [List.getElem_append_left hik];exact ⟨v',e1,e2⟩
              · have aw:i=l.length:=by simp at hi;omega
                subst aw
                rw [List.getElem_append_right (Bh _)]
                simp only [Nat.sub_self,List.getElem_cons_zero]
                exact ⟨v,by rw [aa];exact q1,kt⟩
            · rcases List.mem_append.1 hu with hu | hu
              · exact ac u hu
              · rw [Zm.1 hu]; exact ot
            · rw [List.range_succ,HJ,HJ,List.sum_append,bX]
              have:Ky (List.map D [k])=bulk (D k):=by simp [Ky,bulk,Go.Proofs.YtddkmmfmmamipaaGreatDoor.Rows.uptoBulkAll]
              rw [this];simp only [EG,Gz,LD,List.sum_nil];simp only [] at ct;omega
        obtain ⟨l,aa,ab,ac,af⟩:=ad len (Bh _)
        refine done l ⟨some a,az,by rw [aa],by rw [aa];exact a0,fun ag=>?_⟩ ac (by simp only [] at af ay ⊢;omega)
        obtain ⟨v0,h0,_⟩:=ab 0 ag
        obtain ⟨_,_,ap⟩:=World.cells?_some h0
        have hc:=ap 0 O
        have ae:a.spot=none:=by
          cases hq:a.spot with
          | none=>rfl
          | some y =>
            have:w.cell? ((a.add (0*9)).add 0)=none:=by
              unfold World.cell?
              split
              · simp [Addr.add,hq]
              · rfl
            rw [this] at hc; simp [Cs] at hc
        have ha:a=⟨a.block,a.off,none⟩:=by cases a;simp only at ae;rw [ae]
        obtain ⟨ak,r1,r2⟩:=Y7 (w:=w) (b:=a.block) (D:=fun _=>True) l a.off (fun i hi=>by
          obtain ⟨v,e1,e2⟩:=ab i hi
          refine ⟨v,?_,e2⟩
          obtain ⟨_,_,ax⟩:=World.cells?_some e1
          intro j u hj
          have ao:j<9:=by have:=(List.getElem?_eq_some_iff.mp hj).1;simpa [Cs] using this
          have:=ax j ao
          rw [hj] at this
          rw [← this]
          congr 1
          rw [ha,Addr.add_lit,Addr.add_lit])
        exact ⟨a.block,a.off,by rw [ha],BN,ak,r1,r2⟩
theorem sA{r:Reach}{b0:Nat}{v:Ak}{d:DataW C'}{p:List MemPlace}(hv:Value.okWide Aj w r b0 26 v)(h:DataW.Trod enc Aj w base sp held 26 v d p):∃ (t:Nd) (u:Ak),v=BV t u∧Bo w (fun _=>True) t.b u∧Ot t∧Ma t≤bulk d:=by
 obtain ⟨fs,ab⟩:=oO WG;obtain ⟨cs,rfl,_⟩:=okWide_struct ab hv;obtain ⟨aa,hf⟩:=h;obtain ⟨t,u,ht,h1,h2,h3⟩:=uT _ aa _ _ (Bh _) hf;refine ⟨t,u,?_,h1,h2,h3⟩;show Value.agg cs=Value.agg (Cs t u).toArray;rw [← ht];simp [Value.cells]
theorem rO{r:Reach}{b0:Nat}{v:Ak}{d:DataW C'}{p:List MemPlace}(hv:Value.okWide Aj w r b0 26 v)(h:DataW.Trod enc Aj w base sp held 26 v d p):∃ (t:Nd) (u:Ak),v=BV t u∧Bo w (fun _=>True) t.b u∧Ot t∧count t≤bulk d:=by
 obtain ⟨t,u,h1,h2,h3,h4⟩:=sA hv h;exact ⟨t,u,h1,h2,h3,AN (nQ t) h4⟩
end
end Go.Rk
namespace Go.Rk
open Go.Proofs
open Go Go.RowKit
def EU(S:Nat→Prop)(A:Ad)(S':Nat→Prop)(A':Ad):Prop:=Ga S A A'∧∀ k,S' k→(S k∨A.heap.size≤k)∧k<A'.heap.size
theorem EU.refl{S:Nat→Prop}{A:Ad}(h:∀ k,S k→k<A.heap.size):EU S A S A:=⟨Ga.refl _ _,fun k hk=>⟨.inl hk,h k hk⟩⟩
theorem EU.trans{S S1 S2:Nat→Prop}{A B C:Ad}(h:EU S A S1 B)(k:EU S1 B S2 C):EU S A S2 C:=by
 have hs:=h.1.size;refine ⟨⟨k.1.os.trans h.1.os,k.1.tape.trans h.1.tape,k.1.output.trans h.1.output,AN hs k.1.size,fun i hi hn=>?_⟩,fun i hi=>⟨?_,(k.2 i hi).2⟩⟩;exact (k.1.block i (Ei hi hs) fun h1=>by rcases (h.2 i h1).1 with q|q;exact hn q;omega).trans (h.1.block i hi hn);rcases (k.2 i hi).1 with q|q;exact (h.2 i q).1;exact .inr O
theorem EU.below{S S1:Nat→Prop}{A B C:Ad}{m:Nat}(h:EU S A S1 B)(g:Below m B C)(hm:A.heap.size≤m):EU S A S1 C:=⟨Xt h.1 g hm,fun k hk=>⟨(h.2 k hk).1,Ei (h.2 k hk).2 g.size⟩⟩
theorem EU.g{S S1:Nat→Prop}{A B C:Ad}(h:EU S A S1 B)(g:G B C):EU S A S1 C:=⟨h.1.trans (Ga.J g),fun k hk=>⟨(h.2 k hk).1,Ei (h.2 k hk).2 g.size⟩⟩
theorem EU.size{S S1:Nat→Prop}{A B:Ad}(h:EU S A S1 B):A.heap.size≤B.heap.size:=h.1.size
theorem EU.out{S S1:Nat→Prop}{A B:Ad}{k:Nat}(h:EU S A S1 B)(hk:k<A.heap.size)(hn:¬ S k):¬ S1 k:=fun h1=>by rcases (h.2 k h1).1 with q|q;exact hn q;omega
def Vv{α:Type}(P:BH)(gf:Nat)(lb:Array Ak)(w:Ad)(Nb:Nat→Prop)(L:List α)(En:α→(Nat→Prop)→Ad→Array Ak→Prop):Prop :=
 ∀ (l:Nat) (J Jx:List α→(Nat→Prop)→Ad→Prop) (S:Nat→Prop) (W:Ad),G w W→(∀ k,S k→k<W.heap.size∧¬ Nb k)→
  (∀ pre S' A,J pre S' A→EU S W S' A)→(∀ pre S' A,Jx pre S' A→EU S W S' A)→
  (∀ pre S' A C,J pre S' A→E2 W.heap.size A C→J pre S' C)→(∀ pre S' A C,Jx pre S' A→E2 W.heap.size A C→Jx pre S' C)→
  (∀ pre x args S' A,J pre S' A→pre++[x] <+: L→En x S' A args→NU P l args A fun b A'=>∃ S2,EU S' A S2 A'∧((b = .bool true∧J (pre++[x]) S2 A')∨(b = .bool false∧Jx (pre++[x]) S2 A')))→
  J [] S W→Bx P gf (#[P1 l]++lb) W fun _ W'=>∃ S',J L S' W'∨∃ pre x,pre++[x] <+: L∧Jx (pre++[x]) S' W'
section
variable {P:BH} {n:Nat} {ds:List Deferred} {N T:ET} {X:List (Nat×ET)} {Z:List Bd→ET} {σ:List Ce} {w:Ad}
theorem Vh{α:Type}{g:A7}{p:Tmp}{assign body:Code}{gf:Nat}{fs lb:Array Ak}{Nb S0:Nat→Prop}{L:List α}{En:α→(Nat→Prop)→Ad→Array Ak→Prop}
 (hg:Bz n σ True g (.func (.func gf) #[] lb)) (bo:Bt P gf=true) (bi:Vv P gf lb w Nb L En) (bf:∀ k,Nb k→k<w.heap.size) (av:∀ k,S0 k→k<w.heap.size∧¬ Nb k)
 (I:List α→(Nat→Prop)→Ad→Prop) (Ix:Code→List α→(Nat→Prop)→Ad→Prop) (a4:List Nat) (hp:F9 p n=true)
 (hI:∀ pre S A C,I pre S A→E2 w.heap.size A C→I pre S C) (ar:∀ c pre S A C,Ix c pre S A→E2 w.heap.size A C→Ix c pre S C)
 (bm:∀ x S A args,En x S A args→∃ v,args = #[v]) (ba:∀ x S A C args,En x S A args→E2 w.heap.size A C→En x S C args) (bt:∀ x S S' A args,(∀ k,S k→S' k)→En x S' A args→En x S A args)
 (h0:I [] S0 w)
 (aw:∀ l pre x v S A,I pre S A→pre++[x] <+: L→En x S A #[v]→EU S0 w S A→∀ H':ET,
 (∀ τ u,G A u→(∀ C,E2 w.heap.size u C→I pre S C→En x S C #[v]→EU S0 w S C→Gh P (some l) n [] body (fun ds a A'=>ds=[]∧∃ S',EU S C S' A'∧I (pre++[x]) S' A')
 (a4.map fun id=>(id,fun ds a A'=>ds=[]∧∃ S',EU S C S' A'∧Ix (.exit id) (pre++[x]) S' A')) (fun ds a A'=>ds=[]∧∃ S',EU S C S' A'∧Ix .ret (pre++[x]) S' A') VO τ C)→∀ a,Cx n τ a→H' [] a u)→
 Gh P (some l) n [] assign H' [] mS VO ((p,True,v) :: σ) A)
 (a0:∀ db S W,I L S W→w.heap.size≤db→¬ S db→W.heap[db]? = some (.deferred (some []))→EU S0 w S W→∀ a,Cx n σ a→N (NB db::ds) a W)
 (az:∀ db c pre x S W,Ix c (pre++[x]) S W→pre++[x] <+: L→w.heap.size≤db→¬ S db→W.heap[db]? = some (.deferred (some []))→EU S0 w S W→Gh P none n (NB db::ds) c N X T Z σ W) :
 Gh P none n ds (.rangeFunc g #[p] assign body) N X T Z σ w:=fun a ha=>by
 refine wpIn_rangeFunc (F:=Fence.wide) fun fn _=>?_;obtain ⟨ab,ac⟩:∃ ab:LoopState→Option Code→Loop,ab=fun st pe=>{ state:=st,pending:=pe,fn,tmps:=(wd ds a).tmps,params:=#[p],assign,body,defers:=w.heap.size }:=⟨_,rfl⟩;obtain ⟨W1,an⟩:∃ W1,(w.alloc (.deferred (some []))).alloc (.loop (ab .ready none))=W1:=⟨_,rfl⟩;have g1:G w W1:=by rw [← an];exact ((Below.refl _ w).alloc (Bh _) _).alloc BI _
 have bv:W1.heap.size=w.heap.size+2:=by rw [← an];simp
 have bh:W1.heap[w.heap.size+1]? = some (.loop (ab .ready none)):=by
  rw [← an];have:=World.alloc_heap_new (w.alloc (.deferred (some []))) (.loop (ab .ready none));rwa [World.size_alloc] at this
 have a8:W1.heap[w.heap.size]? = some (.deferred (some [])):=by
  rw [← an];exact (Below.heap_alloc _ _ _ BI).trans (World.alloc_heap_new w _)
 obtain ⟨LS,ai⟩:∃ LS:(Nat→Prop)→Nat→Prop,LS=fun S k=>S k∨k=w.heap.size+1:=⟨_,rfl⟩;obtain ⟨Q,hQ⟩:∃ Q:(Nat→Prop)→Ad→Prop,Q=fun S A=>Ga S0 w A∧∀ k,S k→(S0 k∨w.heap.size+2≤k)∧k<A.heap.size:=⟨_,rfl⟩
 have ax:∀ S A,Q S A→EU S0 w S A:=fun S A h=>by
  rw [hQ] at h;exact ⟨h.1,fun k hk=>⟨(h.2 k hk).1.imp id fun q=>by omega,(h.2 k hk).2⟩⟩
 have ah:∀ S A C,Q S A→E2 w.heap.size A C→Q S C:=fun S A C h g=>by
  rw [hQ] at h ⊢;exact ⟨Xt h.1 g.below (Bh _),fun k hk=>⟨(h.2 k hk).1,Ei (h.2 k hk).2 g.size⟩⟩
 have a6:∀ S A,Q S A→¬ S (w.heap.size+1)∧¬ S w.heap.size:=fun S A h=>by
  rw [hQ] at h;refine ⟨fun hk=>?_,fun hk=>?_⟩ <;> (have:=(h.2 _ hk).1;rcases this with q|q;(have:=(av _ q).1;omega);omega)
 have ao:∀ S A o,Q S A→A.heap[w.heap.size+1]? = some o→A.heap[w.heap.size]? = some (.deferred (some []))→EU (LS S0) W1 (LS S) A:=fun S A o h hl hd=>by
  have ap:=(Dv.1 hl).1;rw [hQ] at h;refine ⟨⟨h.1.os.trans (by rw [g1.os]),h.1.tape.trans (by rw [g1.tape]),h.1.output.trans (by rw [g1.output]),O,fun k hk hn=>?_⟩,fun k hk=>?_⟩
  ·rw [ai] at hn
   by_cases e:k=w.heap.size
   · subst e;exact hd.trans a8.symm
   ·have a7:k<w.heap.size:=by have:¬ k=w.heap.size+1:=fun e=>hn (.inr e);omega
    exact (h.1.block k a7 fun h=>hn (.inl h)).trans (g1.block a7).symm
  ·rw [ai] at hk ⊢
   rcases hk with hk|rfl
   ·obtain ⟨q1,q2⟩:=h.2 k hk
    exact ⟨q1.imp .inl fun q=>by omega,q2⟩
   · exact ⟨.inl (.inr rfl),ap⟩
 refine ⟨w.heap.size+1,[NB w.heap.size],W1,{ target:=.fn (.func gf) lb,args:=#[P1 (w.heap.size+1)] },W1,gf,#[P1 (w.heap.size+1)]++lb,W1,?_,?_,(fun _ _=>BN),?_,(fun h=>by cases h),?_⟩
 · rw [← an,ac];exact run_enterLoop_outer _ _ _ _ _
 ·have bg:(wd ds a).eval g = .func (.func gf) #[] lb:=hg a ha BN
  simp only [resolve,bg];simp [go_sem,P1]
 · simp only [invoke];exact Qj bo _ _
 refine callsIn_wide.2 (Calls.mono (bi (w.heap.size+1) (fun pre S A=>∃ S1,S=LS S1∧I pre S1 A∧A.heap[w.heap.size+1]? = some (.loop (ab .ready none))∧A.heap[w.heap.size]? = some (.deferred (some []))∧Q S1 A)
  (fun pre S A=>∃ S1,S=LS S1∧∃ c,Ix c pre S1 A∧A.heap[w.heap.size+1]? = some (.loop (ab .done (some c)))∧A.heap[w.heap.size]? = some (.deferred (some []))∧Q S1 A) (LS S0) W1 g1
  (fun k hk=>?_) (fun pre S A h=>?_) (fun pre S A h=>?_) (fun pre S A C h hg=>?_) (fun pre S A C h hg=>?_) (fun pre x args S A h am hx=>?_) ⟨S0,rfl,hI _ _ _ _ h0 (E2.J g1 (Bh _)),bh,a8,?_⟩) fun e W' h=>?_)
 ·rw [ai] at hk
  rcases hk with hk|rfl
  · exact ⟨by have:=(av k hk).1;omega,(av k hk).2⟩
  · exact ⟨O,fun h=>by have:=bf _ h;omega⟩
 · obtain ⟨S1,rfl,_,hl,hd,hq⟩:=h;exact ao _ _ _ hq hl hd
 · obtain ⟨S1,rfl,c,_,hl,hd,hq⟩:=h;exact ao _ _ _ hq hl hd
 ·obtain ⟨S1,rfl,h1,hl,hd,hq⟩:=h
  exact ⟨S1,rfl,hI _ _ _ _ h1 (hg.mono O),(hg.below.block _ O).trans hl,(hg.below.block _ O).trans hd,ah _ _ _ hq (hg.mono O)⟩
 ·obtain ⟨S1,rfl,c,h1,hl,hd,hq⟩:=h
  exact ⟨S1,rfl,c,ar _ _ _ _ _ h1 (hg.mono O),(hg.below.block _ O).trans hl,(hg.below.block _ O).trans hd,ah _ _ _ hq (hg.mono O)⟩
 ·-- one round
  obtain ⟨S1,rfl,hi,hl,hd,hq⟩:=h;replace hx:=bt x S1 _ A args (fun k hk=>by rw [ai];exact .inl hk) hx;obtain ⟨v,rfl⟩:=bm _ _ _ _ hx;have ap:w.heap.size+1<A.heap.size:=(Dv.1 hl).1;have au:Cx n ((p,True,v) :: σ) (a.put (some p) v):=ha.put hp (fun _=>rfl) (fun h=>absurd BN h);have hy:=run_yield (P:=P) (args:=#[v]) hl (by rw [ac];rfl)
  have hy:(Instr.yield (w.heap.size+1) #[v]).run P A = .ok (.round (w.heap.size+1) fn (a.put (some p) v).tmps assign body) A:=by
   rw [hy,ac];simp [Act.put,wd]
  refine ⟨fn,_,assign,body,hy,roundIn_of_wpIn (F:=Fence.wide) BN ?_⟩;have e1:({ tmps:=(a.put (some p) v).tmps,defers:=[] }:Act)=wd [] (a.put (some p) v):=rfl;rw [e1]
  have bp:=aw (w.heap.size+1) pre x v S1 A hi am hx (ax _ _ hq) (fun ds a u=>ds=[]∧∃ τ,Cx n τ a∧G A u∧∀ C,E2 w.heap.size u C→I pre S1 C→En x S1 C #[v]→EU S0 w S1 C→Gh P (some (w.heap.size+1)) n [] body (fun ds a A'=>ds=[]∧∃ S',EU S1 C S' A'∧I (pre++[x]) S' A')
   (a4.map fun id=>(id,fun ds a A'=>ds=[]∧∃ S',EU S1 C S' A'∧Ix (.exit id) (pre++[x]) S' A')) (fun ds a A'=>ds=[]∧∃ S',EU S1 C S' A'∧Ix .ret (pre++[x]) S' A') VO τ C) (fun τ u h1 h2 a h3=>⟨rfl,τ,h3,h1,h2⟩) _ au
  refine wpIn_mono (F:=Kb (some (w.heap.size+1))) bp (fun e a2 u q=>?_)
  cases e with
  | normal =>
   obtain ⟨q1,τ,q3,ad,qb⟩:=q;have ay:w.heap.size≤A.heap.size:=by omega
   replace hi:=hI _ _ _ _ hi (E2.J ad ay);replace hx:=ba _ _ _ _ _ hx (E2.J ad ay);replace hl:=(ad.block ap).trans hl;replace hd:=(ad.block O).trans hd;have bu:=ad.size;have bc:=ah _ _ _ hq (E2.J ad ay);obtain ⟨br,bs⟩:=a6 _ _ hq;have ag:=hq;rw [hQ] at ag;replace ap:w.heap.size+1<u.heap.size:=by omega
   refine ⟨_,run_beginRound hl (by rw [ac]),?_⟩;have af:E2 w.heap.size u (u.putObj (w.heap.size+1) (.loop { ab .ready none with state:=.busy })):=QS _ hl rfl O;have bq:(u.putObj (w.heap.size+1) (.loop { ab .ready none with state:=.busy })).heap[w.heap.size+1]? = some (.loop { ab .ready none with state:=.busy }):=World.putObj_heap_same ap;have be:(u.putObj (w.heap.size+1) (.loop { ab .ready none with state:=.busy })).heap[w.heap.size]? = some (.deferred (some [])):=(World.putObj_heap_other O).trans hd;have hb:=qb _ af (hI _ _ _ _ hi af) (ba _ _ _ _ _ hx af) (ax _ _ (ah _ _ _ bc af)) _ q3;have e2:wd [] (wd [] a2)=a2:=by cases a2;cases q1;rfl
   rw [e2] at hb
   have a5:∀ (aa:Option Code) (S':Nat→Prop) (C:Ad),EU S1 (u.putObj (w.heap.size+1) (.loop { ab .ready none with state:=.busy })) S' C→(Instr.endRound (w.heap.size+1) aa).run P C = .ok (.bool aa.isNone) (C.putObj (w.heap.size+1) (.loop (ab (if aa.isNone then .ready else .done) aa)))∧E2 w.heap.size C (C.putObj (w.heap.size+1) (.loop (ab (if aa.isNone then .ready else .done) aa)))∧(C.putObj (w.heap.size+1) (.loop (ab (if aa.isNone then .ready else .done) aa))).heap[w.heap.size+1]? = some (.loop (ab (if aa.isNone then .ready else .done) aa))∧(C.putObj (w.heap.size+1) (.loop (ab (if aa.isNone then .ready else .done) aa))).heap[w.heap.size]? = some (.deferred (some []))∧EU (LS S1) A (LS S') (C.putObj (w.heap.size+1) (.loop (ab (if aa.isNone then .ready else .done) aa)))∧Q S' (C.putObj (w.heap.size+1) (.loop (ab (if aa.isNone then .ready else .done) aa))):=fun aa S' C hC=>by
    have bk:=hC.size;simp only [World.putObj_size] at bk;have a1:=(hC.1.block (w.heap.size+1) (by simp;omega) br).trans bq;have bj:=(hC.1.block w.heap.size (by simp;omega) bs).trans be;have:=run_endRound (P:=P) aa a1;have ae:E2 w.heap.size C (C.putObj (w.heap.size+1) (.loop (ab (if aa.isNone then .ready else .done) aa))):=QS _ a1 rfl O;have a9:∀ k,S' k→(S1 k∨u.heap.size≤k)∧k<C.heap.size:=fun k hk=>by have:=hC.2 k hk;simpa using this
    rw [ac] at this ⊢;refine ⟨this,by rw [ac] at ae;exact ae,World.putObj_heap_same (Dv.1 a1).1,(World.putObj_heap_other O).trans bj,⟨⟨hC.1.os.trans ad.os,hC.1.tape.trans ad.tape,hC.1.output.trans ad.output,by simp;omega,fun k hk hn=>?_⟩,fun k hk=>?_⟩,?_⟩
    ·rw [ai] at hn
     have au:¬ k=w.heap.size+1:=fun e=>hn (.inr e);exact (World.putObj_heap_other au).trans ((hC.1.block k (by simp;omega) fun h=>hn (.inl h)).trans ((World.putObj_heap_other au).trans (ad.block hk)))
    ·rw [ai] at hk ⊢
     rcases hk with hk|rfl
     ·obtain ⟨k1,k2⟩:=a9 k hk
      exact ⟨k1.imp .inl fun q=>by omega,by simpa using k2⟩
     · exact ⟨.inl (.inr rfl),by simp;omega⟩
    ·rw [hQ]
     refine ⟨⟨hC.1.os.trans (ad.os.trans ag.1.os),hC.1.tape.trans (ad.tape.trans ag.1.tape),hC.1.output.trans (ad.output.trans ag.1.output),by simp;omega,fun k hk hn=>?_⟩,fun k hk=>?_⟩
     ·have bn:¬ S1 k:=fun h=>by rcases (ag.2 k h).1 with q|q;exact hn q;omega
      exact (World.putObj_heap_other O).trans ((hC.1.block k (by simp;omega) bn).trans ((World.putObj_heap_other O).trans ((ad.block O).trans (ag.1.block k hk hn))))
     ·obtain ⟨k1,k2⟩:=a9 k hk
      refine ⟨?_,by simpa using k2⟩;rcases k1 with k1|k1
      · exact (ag.2 k k1).1
      · exact .inr O
   refine wpIn_mono hb (fun e a3 C q=>?_)
   cases e with
   | normal =>
    obtain ⟨_,S',k1,k2⟩:=q;obtain ⟨hr,ae,al,aj,aq,ak⟩:=a5 none S' C k1;exact ⟨_,_,hr,_,rfl,LS S',aq,.inl ⟨rfl,S',rfl,hI _ _ _ _ k2 ae,al,aj,ak⟩⟩
   | ret =>
    obtain ⟨_,S',k1,k2⟩:=q;obtain ⟨hr,ae,al,aj,aq,ak⟩:=a5 (some .ret) S' C k1;exact ⟨_,_,hr,_,rfl,LS S',aq,.inr ⟨rfl,S',rfl,.ret,ar _ _ _ _ _ k2 ae,al,aj,ak⟩⟩
   | exit id =>
    have q:match (a4.map fun id=>(id,(fun ds a A'=>ds=[]∧∃ S',EU S1 (u.putObj (w.heap.size+1) (.loop { ab .ready none with state:=.busy })) S' A'∧Ix (.exit id) (pre++[x]) S' A':ET))).lookup id with|some k=>II k a3 C|none=>False:=q
    rw [Xr] at q;split at q
    ·rename_i k hk
     split at hk
     ·injection hk with hk;subst hk
      obtain ⟨_,S',k1,k2⟩:=q;obtain ⟨hr,ae,al,aj,aq,ak⟩:=a5 (some (.exit id)) S' C k1;exact ⟨_,_,hr,_,rfl,LS S',aq,.inr ⟨rfl,S',rfl,.exit id,ar _ _ _ _ _ k2 ae,al,aj,ak⟩⟩
     · cases hk
    · exact q.elim
   | goto t=>exact q.elim
   | panic ch=>exact q.elim
   | outgrown=>exact q.elim
  | ret=>exact q.elim
  | exit id=>exact q.elim
  | goto t=>exact q.elim
  | panic ch=>exact q.elim
  | outgrown=>exact q.elim
 ·rw [hQ]
  exact ⟨Ga.J g1,fun k hk=>⟨.inl hk,by have:=(av k hk).1;omega⟩⟩
 ·-- behind the iterator
  obtain ⟨v,rfl,S',h⟩:=h;have e3:wd [] ({ wd ds a with defers:=[NB w.heap.size]++(wd ds a).defers }:Act)=a:=ha.a0 ds;rcases h with ⟨S1,rfl,hi,hl,hd,hq⟩|⟨pre,x,am,S1,rfl,c,hi,hl,hd,hq⟩
  ·have af:=QS (n:=w.heap.size) (.loop { ab .ready none with state:=.exhausted }) hl rfl O
   refine ⟨none,_,(run_endLoop (P:=P) hl (by rw [ac];simp)).trans (congrArg (fun x=>Result.ok x _) (show (ab .ready none).pending=none by rw [ac])),?_⟩;show N (NB w.heap.size::ds) (wd [] ({ wd ds a with defers:=[NB w.heap.size]++(wd ds a).defers }:Act)) _;rw [e3];exact a0 w.heap.size S1 _ (hI _ _ _ _ hi af) (Bh _) (a6 _ _ hq).2 ((World.putObj_heap_other O).trans hd) (ax _ _ (ah _ _ _ hq af)) a ha
  ·have af:=QS (n:=w.heap.size) (.loop { ab .done (some c) with state:=.exhausted }) hl rfl O
   refine ⟨some c,_,(run_endLoop (P:=P) hl (by rw [ac];simp)).trans (congrArg (fun x=>Result.ok x _) (show (ab .done (some c)).pending=some c by rw [ac])),?_⟩;exact az w.heap.size c pre x S1 _ (ar _ _ _ _ _ hi af) am (Bh _) (a6 _ _ hq).2 ((World.putObj_heap_other O).trans hd) (ax _ _ (ah _ _ _ hq af)) a ha
theorem gT{ρ:Option Nat}{c:Code}{α:Type}(I:α→Ad→Prop)(σc:List Ce)(σf:α→List Ce)(df:α→List Deferred)(μ:α→Nat)(x0:α)(h0:I x0 w)(hd:df x0=ds)(hs:Hs (σf x0 ++ σc) σ)
  (round:∀ x w,I x w→Gh P ρ n (df x) c (fun ds' a' w'=>∃ y,df y=ds'∧Cx n (σf y ++ σc) a'∧I y w'∧μ y < μ x) X T Z (σf x ++ σc) w):Gh P ρ n ds (.loop c) N X T Z σ w :=
 aA I (fun x=>σf x ++ σc) df μ x0 h0 hd hs round
end
def JF(m:Nat)(dbs:List Nat)(w:Ad):Prop:=dbs.Nodup∧∀ db∈dbs,m≤db∧w.heap[db]? = some (.deferred (some []))
theorem TH(m:Nat)(w:Ad):JF m [] w:=⟨List.nodup_nil,fun _ h=>by cases h⟩
theorem JF.A{m:Nat}{dbs:List Nat}{w w':Ad}(h:JF m dbs w)(hk:∀ k∈dbs,w'.heap[k]? = w.heap[k]?):JF m dbs w':=⟨h.1,fun k q=>⟨(h.2 k q).1,(hk k q).trans (h.2 k q).2⟩⟩
theorem JF.lt{m:Nat}{dbs:List Nat}{w:Ad}(h:JF m dbs w){k:Nat}(hk:k∈dbs):k<w.heap.size:=(Dv.1 (h.2 k hk).2).1
theorem JF.a{m:Nat}{dbs:List Nat}{w w':Ad}(h:JF m dbs w)(g:G w w'):JF m dbs w':=h.A fun k q=>g.block (h.lt q)
theorem JF.mv{m:Nat}{dbs:List Nat}{w w':Ad}{S S':Nat→Prop}(h:JF m dbs w)(hS:∀ k∈dbs,¬ S k)(g:EU S w S' w'):JF m dbs w'∧∀ k∈dbs,¬ S' k:=⟨h.A fun k q=>g.1.block k (h.lt q) (hS k q),fun k q=>g.out (h.lt q) (hS k q)⟩
theorem JF.cons{m db:Nat}{dbs:List Nat}{w:Ad}(h:JF m dbs w)(hm:m≤db)(hd:w.heap[db]? = some (.deferred (some [])))(hn:db∉dbs):JF m (db::dbs) w:=⟨Lz.2 ⟨hn,h.1⟩,Cr.2 ⟨⟨hm,hd⟩,h.2⟩⟩
theorem Ph{P:BH}{n:Nat}{fn:Func}{G':Ak→Ad→Prop}{Rp:List Bd→Ad→Prop}{σ:List Ce}{m:Nat}:∀ {dbs:List Nat} {w:Ad},JF m dbs w→(∀ w',E2 m w w'→∀ a,Cx n σ a→Kw P fn G' Rp [] a w')→∀ a,Cx n σ a→Kw P fn G' Rp (dbs.map NB) a w
 | [],w,_,h=>h w (E2.refl _ _)
 | db::dbs,w,hM,h=>by
  obtain ⟨hm,hd⟩:=hM.2 db Hf;have hg:=QS (n:=m) (.deferred none) hd rfl hm;refine zS hd (Ph ⟨(Lz.1 hM.1).2,fun k hk=>?_⟩ fun w' hw=>h w' (hg.trans hw));obtain ⟨h1,h2⟩:=hM.2 k (Gx _ hk);have aa:k≠db:=fun e=>(Lz.1 hM.1).1 (by rw [e] at hk;exact hk);exact ⟨h1,(World.putObj_heap_other O).trans h2⟩
def VB(D:Nat→Prop)(t:Nd)(r:Ak)(w:Ad):Prop:=∃ p c,r=BV t (.slice p t.b.length c)∧Bo w D t.b (.slice p t.b.length c)
theorem VB.a{D:Nat→Prop}{t:Nd}{r:Ak}{w w':Ad}(h:VB D t r w)(g:G w w'):VB D t r w':=by
 obtain ⟨p,c,e,k⟩:=h;exact ⟨p,c,e,k.a g⟩
@[reducible] def Acs(n:Nat):Nat→Prop:=fun b=>n≤b
theorem D5.a1{e:Aw}{D:Nat→Prop}{base:Nat}{w:Ad}{ks:List Nd}{s:Ak}(h:D5 e D base w ks s):D5 e (fun b=>D b∧b<w.heap.size) base w ks s:=by
 have aa:=h.lt;obtain ⟨xs,h1,h2,h3⟩:=h;exact ⟨xs,h1,h2.lt.mono fun b hb _=>⟨⟨hb.1.1,hb.2⟩,hb.1.2⟩,fun b hb=>⟨h3 b hb,aa b hb⟩⟩
theorem D5.mono{e:Aw}{D D':Nat→Prop}{base:Nat}{w:Ad}{ks:List Nd}{s:Ak}(h:D5 e D base w ks s)(hD:∀ b,D b→D' b):D5 e D' base w ks s:=by
 obtain ⟨xs,h1,h2,h3⟩:=h;exact ⟨xs,h1,h2.mono fun b hb _=>⟨hD b hb.1,hb.2⟩,fun b hb=>hD b (h3 b hb)⟩
section
variable {P:BH} {Z:List Bd→Act→Ad→Prop} {ops:List Oper} {cl:List Nat} {lv:List Bool} {W0:Ad} {n:Nat} {H':Act→Ad→Prop} {k:Nat} {rest:List Oper} {σ:List Ce} {w:Ad} {d:Nat} {ty:Aw} {pos:String} {after:Array Edge}
theorem iA{e base b:Nat}{D:Nat→Prop}(ho:w.ownsRow base e 9 (.slice (some ⟨b,0,none⟩) 0 0) 0 [])(hD:D b):D5 e D base w [] (.slice (some ⟨b,0,none⟩) 0 0):=⟨[],ho,NK,fun k hk=>by injection hk with hk;exact hk▸hD⟩
theorem kR{t e base q' b cp:Nat}{x y:A7}{zv:Ak}{p:Option Addr}{D D':Nat→Prop}{ks ls:List Nd}(hb:(BM (Bw cl k) 2&&F9 d n)=true)(ht:FQ P t=some (e,9,104))(aj:Gc P e=some zv)
 (af:zv.cells.size=9) (hx:Bz n σ True x (.slice (some ⟨b,0,none⟩) ks.length cp)) (hO:D5 e D base w ks (.slice (some ⟨b,0,none⟩) ks.length cp)) (ah:ks.length≤cp) (hy:Bz n σ True y (.slice p ls.length q')) (hk:Bo w D' ls (.slice p ls.length q')) (ab:∀ j,D' j→D j∧j≠b)
 (ac:ks.length+ls.length≤10000000) (aa:base≤w.heap.size) (hD:D w.heap.size)
 (h:∀ a' c' w',D5 e D base w' (ks++ls) (.slice a' (ks++ls).length c')→w.grownBy w' (some b)→base≤b→Bv P Z ops cl lv W0 n H' (k+1) rest ((d,True,.slice a' (ks++ls).length c') :: σ) w') :
 Bv P Z ops cl lv W0 n H' k (⟨some d,.call { callee:=.builtin .append,args:=#[x,y],argTypes:=#[t,t] },ty,pos,after,none⟩::rest) σ w:=by
 have ad:base≤b:=hO.ge b rfl;by_cases hl:ls=[];subst hl;have h':=h (some ⟨b,0,none⟩) cp w (by rw [List.append_nil];exact hO) ⟨rfl,rfl,rfl,Bh _,fun _ _ _=>rfl⟩ ad;rw [List.append_nil] at h';exact Uh hb ht hx ah hy h';obtain ⟨p',c,e1,hc,ag⟩:=hk;injection e1 with e1 _ e2;subst e1 e2;obtain ⟨b',o,rfl,ak,xs,hR,hX⟩:=ag (List.length_pos_iff.2 hl);have ai:D8 w (fun j=>D j∧some j≠(Ij (some ⟨b,0,none⟩) ks.length cp).ownBlock) ls xs:=hX.mono fun j hj _=>⟨(ab j hj).1,fun he=>(ab j hj).2 (by injection he)⟩;exact VS hb ht aj af hx hO hy rfl hR ai ac aa hD fun a' c' w' ae hg=>h a' c' w' ae hg ad
theorem sC{t e base q' b:Nat}{x y:A7}{zv:Ak}{p:Option Addr}{D D':Nat→Prop}{ls:List Nd}(hb:(BM (Bw cl k) 2&&F9 d n)=true)(ht:FQ P t=some (e,9,104))(ad:Gc P e=some zv)
  (af:zv.cells.size=9) (hx:Bz n σ True x (.slice (some ⟨b,0,none⟩) 0 0)) (ho:w.ownsRow base e 9 (.slice (some ⟨b,0,none⟩) 0 0) 0 []) (ae:D b) (hy:Bz n σ True y (.slice p ls.length q')) (hk:Bo w D' ls (.slice p ls.length q')) (ac:∀ j,D' j→D j∧j≠b)
  (ab:ls.length≤10000000) (aa:base≤w.heap.size) (hD:D w.heap.size)
  (h:∀ a' c' w',D5 e D base w' ls (.slice a' ls.length c')→w.grownBy w' (some b)→base≤b→Bv P Z ops cl lv W0 n H' (k+1) rest ((d,True,.slice a' ls.length c') :: σ) w') :
  Bv P Z ops cl lv W0 n H' k (⟨some d,.call { callee:=.builtin .append,args:=#[x,y],argTypes:=#[t,t] },ty,pos,after,none⟩::rest) σ w :=
 kR (ks:=[]) hb ht ad af hx (iA ho ae) (Bh _) hy hk ac (by simpa using ab) aa hD h
end
theorem cN{w w':Ad}{D D':Nat→Prop}{t:Nd}{v:Ak}(hD:∀ b,D b→b<w.heap.size→D' b)(hf:∀ b,D b→b<w.heap.size→w'.heap[b]? = w.heap[b]?)(ht:Bo w' D' t.b v):∀ {ks:List Nd} {xs:List Ak} (_:D8 w D ks xs) {i:Nat} (_:i<ks.length),D8 w' D' (ks.set i t) (xs.take (i*9)++Cs t v++xs.drop (i*9+9))
 | s::ks,xs,h,0,_=>by
  obtain ⟨u,r,rfl,h1,h2⟩:=h;have e:(Cs s u).length=9:=QB _ _;show D8 w' D' (t::ks) _;rw [Nat.zero_mul,J9,HA,Dg,HN,HZ O,e,Nat.sub_self,G0,HA];exact F2 ht (Lx hD hf _ _ h2)
 | s::ks,xs,h,i+1,hi=>by
  obtain ⟨u,r,rfl,h1,h2⟩:=h;have e:(Cs s u).length=9:=QB _ _;have k:=cN hD hf ht h2 (i:=i) (by simpa using hi);show D8 w' D' (s::ks.set i t) _;have aa:Bo w' D' s.b u:=by rw [NX] at h1;exact He h1 hD hf
  rw [Ih,Ic O,e,show (i+1)*9-9=i*9 by omega,HN,HZ O,e,show (i+1)*9+9-9=i*9+9 by omega,HA,Ik,Ik,← Ik (r.take _)];exact F2 aa k
theorem D5.ay{e:Aw}{D:Nat→Prop}{base:Nat}{w:Ad}{ks:List Nd}{s:Ak}(h:D5 e D base w ks s){i:Nat}(hi:i<ks.length):∃ g c l,s = .slice (some ⟨g,0,none⟩) ks.length c∧Av w g e l∧i*9+9≤l.length∧D g∧base≤g∧
 (∃ v,(l.drop (i*9)).take 9=Cs ks[i] v∧Bo w (fun k=>D k∧k≠g) ks[i].b v)∧
 ∀ {w':Ad} {t:Nd} {v:Ak} {D':Nat→Prop},w.grownBy w' (some g)→Av w' g e (l.take (i*9)++Cs t v++l.drop (i*9+(Cs t v).length))→(∀ b,D b→D' b)→Bo w' (fun k=>D' k∧k≠g) t.b v→D5 e D' base w' (ks.set i t) (.slice (some ⟨g,0,none⟩) (ks.set i t).length c):=by
 obtain ⟨xs,ho,hX,hD⟩:=h;obtain ⟨g,c,l,rfl,ai,hB,al,ad,ag,ak⟩:=OZ ho O;have hg:=hD g rfl;have ae:i*9+9≤l.length:=by rw [ad];have:=Nat.mul_le_mul_right 9 al;omega
 have af:D8 w (fun k=>D k∧k≠g) ks xs:=hX.mono fun k hk _=>⟨hk.1,fun he=>hk.2 (by rw [he];rfl)⟩;obtain ⟨u,hu,aj⟩:=UJ af hi;refine ⟨g,c,l,rfl,hB,ae,hg,ai,⟨u,?_,aj⟩,fun {w' t v D'} hw ac ab hK=>?_⟩;rw [← hu,← ag,List.drop_take,List.take_take];congr 1;omega;have e9:(Cs t v).length=9:=QB _ _;rw [e9] at ac
 have e0:(l.take (i*9)++Cs t v++l.drop (i*9+9)).length=c*9:=by
  rw [CW,CW,MM,List.length_drop,e9];omega
 have aa:=ak w' _ ac e0
 have et:(l.take (i*9)++Cs t v++l.drop (i*9+9)).take (ks.length*9)=xs.take (i*9)++Cs t v++xs.drop (i*9+9):=by
  rw [← ag,Ih,CW,MM,e9,Ic (by rw [CW,MM,e9];omega),List.take_take,List.drop_take,show min (i*9) l.length=i*9 by omega,show min (i*9) (ks.length*9)=i*9 by omega]
 rw [et] at aa;refine ⟨_,by rw [List.length_set];exact aa,?_,fun b hb=>by injection hb with hb;exact hb▸ab g hg⟩;exact cN (D:=fun k=>D k∧k≠g) (fun b hb ah=>⟨ab b hb.1,fun he=>hb.2 (by injection he)⟩) (fun b hb ah=>hw.block b ah fun he=>hb.2 (by injection he)) (hK.mono fun k hk _=>⟨hk.1,fun he=>hk.2 (by injection he)⟩) af hi
section
variable {P:BH} {Z:List Bd→Act→Ad→Prop} {ops:List Oper} {cl:List Nat} {lv:List Bool} {W0:Ad} {n:Nat} {H':Act→Ad→Prop} {k:Nat} {rest:List Oper} {σ:List Ce} {w:Ad} {d:Nat} {op:Op} {ty:Aw} {pos:String} {after:Array Edge} {v:Ak}
theorem yA{w':Ad}(hb:BM (Bw cl k) 2=true)(hr:VA P n σ True w op ty v w')(h:Bv P Z ops cl lv W0 n H' (k+1) rest σ w') :
 Bv P Z ops cl lv W0 n H' k (⟨none,op,ty,pos,after,none⟩::rest) σ w:=.mk fun hl a ha=>by
 obtain ⟨h0,h1⟩:=J8 hl;have hc:=CQ hb;rw [FS,List.range'_succ];refine ⟨_,h0,?_⟩;rw [CJ O,CP QF];exact .inl ⟨v,w',hr _ _ _ _ a ha BN,fun hh=>by rw [hc] at hh;simp at hh,h h1 _ ha⟩
open Classical in
theorem Y4{g t:Nat}{want b:Bool}{c0:Prop}{x:A7}{l:Nat}{xs:List A7}{vs:List Ak}{aa:Array Aw}{G':Bool→Ad→Prop}(hb:(BM (Bw cl k) 2&&F9 d n)=true)
 (ab:((ops.toArray[g]?).bind (·.dst))=some t) (ac:Ey σ t=some (c0,.bool b)) (hx:Bz n σ (c0∧b=want) x (P1 l)) (ha:Kj n σ (c0∧b=want) xs vs) (hY:c0∧b=want→NU P l vs.toArray w fun v w'=>∃ bb,v = .bool bb∧G' bb w')
 (h:∀ bb w',(c0∧b=want→G' bb w')→(¬ (c0∧b=want)→bb=true∧w'=w)→Bv P Z ops cl lv W0 n H' (k+1) rest ((d,c0∧b=want,.bool bb) :: σ) w') :
 Bv P Z ops cl lv W0 n H' k (⟨some d,.call { callee:=.value x,args:=xs.toArray,argTypes:=aa },ty,pos,after,some (g,want)⟩::rest) σ w:=.mk fun hl a hk=>by
 obtain ⟨h0,h1⟩:=J8 hl;simp only [DF] at hb;have hc:=CQ hb.1;rw [FS,List.range'_succ];have hw:=Nk (op:=.call { callee:=.value x,args:=xs.toArray,argTypes:=aa }) (ty:=ty) (pos:=pos) (after:=after) (want:=want) (d:=some d) ab ac hk;refine ⟨_,h0,?_⟩;rw [CJ O];by_cases hh:c0∧b=want;rw [CP (hw.2 hh)];obtain ⟨fn,tmps,ad,body,hy,hR⟩:=hY hh;refine .inr (.inr (.inr ⟨l,fn,tmps,ad,body,?_,RoundIn.mono hR fun e w' ⟨v,he,bb,hv,hr⟩=>?_⟩));have h2:xs.toArray.map a.eval=vs.toArray:=by rw [Ns,ha a hk hh]
 simp only [execOp,resolve,hx a hk hh,h2,Deferred.ofValue,Sem.run_bind,Sem.run_pure,Dt,invoke];simpa using hy;subst hv;exact ⟨_,he,fun hq=>by rw [hc] at hq;simp at hq,h bb w' (fun _=>hr) (fun hn=>absurd hh hn) h1 _ (hk.put hb.2 (fun _=>rfl) (fun hn=>absurd hh hn))⟩;rw [CJ (fun hq=>hh (hw.1 hq))];exact h true w (fun hq=>absurd hq hh) (fun _=>⟨rfl,rfl⟩) h1 _ (hk.put hb.2 (fun hq=>absurd hq hh) (fun _=>rfl))
theorem pR{t e z ae m q q' cp b:Nat}{x y:A7}{l news:List Ak}{o:Option Addr}(hb:(BM (Bw cl k) 2&&F9 d n)=true)(ht:FQ P t=some (e,z,ae))(hx:Bz n σ True x (.slice (some ⟨b,0,none⟩) m cp))(hB:Av w b e l)
 (hy:Bz n σ True y (.slice o q q')) (hl:news.length=q*z) (hn:0<q→∃ b' o',o=some ⟨b',o',none⟩∧Cv w b' o' news) (h1:LZ news=true) (aa:m+q≤cp) (ag:m*z+news.length≤l.length)
 (h:∀ w',w.grownBy w' (some b)→Av w' b e (l.take (m*z)++news++l.drop (m*z+news.length))→Bv P Z ops cl lv W0 n H' (k+1) rest ((d,True,.slice (some ⟨b,0,none⟩) (m+q) cp) :: σ) w') :
 Bv P Z ops cl lv W0 n H' k (⟨some d,.call { callee:=.builtin .append,args:=#[x,y],argTypes:=#[t,t] },ty,pos,after,none⟩::rest) σ w:=by
 obtain ⟨hu,i,hi,ab,ah⟩:=JV ht;rcases Nat.eq_zero_or_pos q with h0|h0;subst h0;have ad:news=[]:=List.eq_nil_of_length_eq_zero (by simpa using hl);subst ad;exact Uh hb ht hx O hy (h w (Vr w _) (by simpa using hB));obtain ⟨b',o',rfl,hr⟩:=hn h0;simp only [DF] at hb;have hc:=CQ hb.1;obtain ⟨w',r1,r2,r3,r4⟩:=Sl (P:=P) news (m*z) 0 l w hB O (QO h1);have af:=run_firstCells_some (P:=P) w i.size q ⟨b',o',none⟩ q q' news (by rw [hl,ab]) (fun j u hj=>by rw [Addr.add_lit];exact hr j u hj)
 have ac:(Builtin.append_ #[t,t] ty #[.slice (some ⟨b,0,none⟩) m cp,.slice (some ⟨b',o',none⟩) q q']).run P w = .ok (.slice (some ⟨b,0,none⟩) (m+q) cp) w':=by
  rw [← ab] at r1;simp [Builtin.append_,run_underlying hu,sizeOf,typeInfo,hi,Builtin.lenOf,aa,af,Addr.add_lit,r1]
 refine Np (w':=w') (by rw [hc,hb.2];rfl) (fun d pos after g a ha _=>?_) (fun hh=>O) (h w' r3 (by simpa using r2));simp only [execOp,resolve,invoke,builtin,Sem.run_bind,Sem.run_pure,Dt,Ns,EG,Gz,hx a ha BN,hy a ha BN,ac]
theorem lN{t e base q q':Nat}{x y:A7}{s zv:Ak}{news:List Ak}{b' o':Nat}{D:Nat→Prop}{ks ls:List Nd}(hb:(BM (Bw cl k) 2&&F9 d n)=true)(ht:FQ P t=some (e,9,104))(ae:Gc P e=some zv)
 (ad:zv.cells.size=9) (hx:Bz n σ True x s) (hO:D5 e D base w ks s) (hy:Bz n σ True y (.slice (some ⟨b',o',none⟩) q q')) (hq:ls.length=q) (hn:Cv w b' o' news) (hK:D8 w (fun b=>D b∧some b≠s.ownBlock) ls news)
 (af:ks.length+ls.length≤10000000) (aa:base≤w.heap.size) (hD:D w.heap.size)
 (h:∀ a' c' w',D5 e D base w' (ks++ls) (.slice a' (ks++ls).length c')→w.grownBy w' s.ownBlock→((Ij a' (ks++ls).length c').ownBlock=s.ownBlock∨(Ij a' (ks++ls).length c').ownBlock=some w.heap.size)→Bv P Z ops cl lv W0 n H' (k+1) rest ((d,True,.slice a' (ks++ls).length c') :: σ) w') :
 Bv P Z ops cl lv W0 n H' k (⟨some d,.call { callee:=.builtin .append,args:=#[x,y],argTypes:=#[t,t] },ty,pos,after,none⟩::rest) σ w:=by
 obtain ⟨xs,h1,h2,h3⟩:=id hO;subst hq;have ac:=PR hK;refine ID hb ht ae ad Cb hx h1 hy (Nq hK) hn ac (by simp only [maxLen];omega) O aa fun a' c' w' ho hg ab=>?_;have:=h a' c' w' (hO.append h1 h2 hK hD ho hg ab) hg (by rw [CW];exact ab);rwa [CW] at this
theorem qQ{t e z ad b o cp:Nat}{x:A7}{l:List Ak}{zv:Ak}(hb:BM (Bw cl k) 2=true)(ht:FQ P t=some (e,z,ad))(ag:Gc P e=some zv)(ae:zv.cells.size=z)(h1:LZ zv.cells.toList=true)
 (hx:Bz n σ True x (.slice (some ⟨b,o,none⟩) 1 cp)) (hB:Av w b e l) (aj:o+z≤l.length)
 (h:∀ w',w.grownBy w' (some b)→Av w' b e (l.take o++zv.cells.toList++l.drop (o+z))→Bv P Z ops cl lv W0 n H' (k+1) rest σ w') :
 Bv P Z ops cl lv W0 n H' k (⟨none,.call { callee:=.builtin .clear,args:=#[x],argTypes:=#[t] },ty,pos,after,none⟩::rest) σ w:=by
 obtain ⟨hu,i,hi,ak,ai⟩:=JV ht;obtain ⟨i',ah,ac⟩:=Ox ag;obtain rfl:i=i':=EM (hi.symm.trans ah);have aa:zv.cells.toList.length=z:=by simpa using ae
 obtain ⟨w',r1,r2,r3,r4⟩:=Sl (P:=P) zv.cells.toList o 0 l w hB O (QO h1)
 have af:(Builtin.zeroCells zv.cells 1).toList=zv.cells.toList:=by
  refine List.ext_getElem (by simp [Builtin.zeroCells]) fun j h1 h2=>?_;have hj:j<zv.cells.size:=by simpa using h2
  simp [Builtin.zeroCells,Nat.mod_eq_of_lt hj,hj]
 have hv:(zeroValue e).run P w = .ok zv w:=by simp [zeroValue,typeInfo,hi,ac]
 refine yA (v:=.tuple #[]) (w':=w') hb (fun d pos after g a ha _=>?_) (h w' r3 (by rw [aa] at r2;simpa using r2))
 have ab:(Builtin.clear_ #[t] ty #[.slice (some ⟨b,o,none⟩) 1 cp]).run P w = .ok (.tuple #[]) w':=by
  simp [Builtin.clear_,run_underlying hu,hv,af,r1]
 simp only [execOp,resolve,invoke,builtin,Sem.run_bind,Sem.run_pure,Dt,Ns,EG,Gz,hx a ha BN,ab]
end
section
variable {P:BH} {n:Nat} {σ:List Ce} {c:Prop} {wb:Ad} {ty:Aw}
theorem mG{t e ab:Nat}{x y:A7}{b aa q i:Nat}{k:IntKind}{ks:List Nd}(ht:FQ P t=some (e,9,ab))(h:Bz n σ c x (.slice (some ⟨b,aa,none⟩) ks.length q))(h':Bz n σ c y (.int k i))(hi:c→i≤ks.length) :
 DB P n σ c wb (.slice t x (some y) none none) ty (.slice (some ⟨b,if q=i then aa else aa+i*9,none⟩) (ks.drop i).length (q-i)):=.mk fun d pos after gd a ha hc w1 g=>by
 have:=(PJ (ty:=ty) (wb:=wb) ht h h' (fun hc=>⟨O,by have:=hi hc;omega⟩)).h d pos after gd a ha hc w1 g;rw [this,List.length_drop];rfl
theorem vW{t e z aa:Nat}{x y1 y2 y3:A7}{o:Option Addr}{m q:Nat}{k1 k2 k3:IntKind}{i j l:Nat}(ht:FQ P t=some (e,z,aa))(h:Bz n σ c x (.slice o m q))(h1:Bz n σ c y1 (.int k1 i))(h2:Bz n σ c y2 (.int k2 j))(h3:Bz n σ c y3 (.int k3 l))(hi:c→i≤j∧j≤l∧l≤q) :
 DB P n σ c wb (.slice t x (some y1) (some y2) (some y3)) ty (.slice (o.map fun b=>if l=i then b else b.add (i*z)) (j-i) (l-i)):=by
 obtain ⟨hu,ac,ab,hz,_⟩:=JV ht;refine .mk fun d pos after gd a ha hc w1 _=>?_;obtain ⟨e1,e2,e3⟩:=hi hc;simp only [execOp,h a ha hc,h1 a ha hc,h2 a ha hc,h3 a ha hc,Instr.sliceAt,Ka,Option.map_none,Sem.run_bind,run_underlying hu,Dt];simp [Instr.slice,run_underlying hu,Instr.sliceBounds,Instr.sliceBound,asIntOf,e1,e2,e3,Pj ab,hz];cases o <;> by_cases hq:l=i <;> simp [hq]
theorem qP{t e z ab:Nat}{x y1 y2:A7}{b aa m q:Nat}{k1 k2:IntKind}{j:Nat}(ht:FQ P t=some (e,z,ab))(h:Bz n σ c x (.slice (some ⟨b,aa,none⟩) m q))(h1:Bz n σ c y1 (.int k1 m))(h2:Bz n σ c y2 (.int k2 j))(hi:c→j=m+1∧j≤q) :
 DB P n σ c wb (.slice t x (some y1) (some y2) none) ty (.slice (some ⟨b,aa+m*z,none⟩) 1 (q-m)):=by
 obtain ⟨hu,ad,ac,hz,_⟩:=JV ht;refine .mk fun d pos after gd a ha hc w1 _=>?_;obtain ⟨e1,e2⟩:=hi hc;have e3:¬ q=m:=by omega
 subst e1;simp only [execOp,h a ha hc,h1 a ha hc,h2 a ha hc,Instr.sliceAt,Ka,Option.map_none,Sem.run_bind,run_underlying hu,Dt];simp [Instr.slice,run_underlying hu,Instr.sliceBounds,Instr.sliceBound,asIntOf,e2,e3,Pj ac,hz,Addr.add];rw [CP ⟨O,O⟩];by_cases hz0:m*z=0 <;> simp [hz0]
end
section
variable {P:BH} {n:Nat} {N T:Act→Ad→Prop} {B:List Bd→Ad→Prop} {X:List (Nat×(Act→Ad→Prop))} {σ:List Ce} {w:Ad}
theorem mI{x y:Code}{α:Type}(τ:α→List Ce)(G':α→Ad→Prop)(h1:EW P B n x (fun a w=>∃ z,Cx n (τ z) a∧G' z w) X T σ w)(h2:∀ z u,G' z u→EW P B n y N X T (τ z) u):EW P B n (.seq x y) N X T σ w :=
 KR fun H' hK=>.mk fun a ha=>Code.wp_mono (fun e a w q=>by
 cases e with
 | normal =>
  obtain ⟨z,h,r⟩:=q;exact hK _ _ (h2 z w r) a h
 | _=>exact q) (h1 a ha)
end
theorem lY{w:Ad}{D:Nat→Prop}:∀ {ks:List Nd} {xs:List Ak} (_:D8 w D ks xs) (i:Nat),D8 w D (ks.take i) (xs.take (i*9))
 | [],xs,h,i=>by rw [show xs=[] from h];simp;exact NK
 | t::ts,xs,h,0=>by simp;exact NK
 | t::ts,xs,h,i+1=>by
  obtain ⟨v,r,rfl,h1,h⟩:=h;have e:(Cs t v).length=9:=rfl;rw [show (i+1)*9=9+i*9 by omega,Ih,Ic (l:=Cs t v) O,e,show 9+i*9-9=i*9 by omega];exact ⟨v,_,rfl,h1,lY h i⟩
theorem dB{w:Ad}{D:Nat→Prop}:∀ {ks:List Nd} {xs:List Ak} (_:D8 w D ks xs) (i:Nat),D8 w D (ks.drop i) (xs.drop (i*9))
 | [],xs,h,i=>by rw [show xs=[] from h];simp;exact NK
 | t::ts,xs,h,0=>by simpa using h
 | t::ts,xs,h,i+1=>by
  obtain ⟨v,r,rfl,h1,h⟩:=h;have e:(Cs t v).length=9:=rfl;rw [show (i+1)*9=9+i*9 by omega,HN,HZ (l:=Cs t v) O,e,show 9+i*9-9=i*9 by omega];exact dB h i
@[reducible] def Abu(m:Nat):H0:=⟨fun w w'=>Below m w w',fun w=>Below.refl _ _,fun h k=>Below.trans h k⟩
theorem Cv.kq{w w':Ad}{b o j:Nat}{l:List Ak}(h:Cv w b o l)(hg:w.grownBy w' (some j))(aa:b≠j):Cv w' b o l:=fun i v hi =>
 (To (hg.block b (Ez w _ (h i v hi)) fun e=>aa (by injection e))).trans (h i v hi)
theorem D5.own{e:Aw}{D:Nat→Prop}{base:Nat}{w:Ad}{ks:List Nd}{s:Ak}(h:D5 e D base w ks s):∀ k,s.ownBlock=some k→D k:=by
 obtain ⟨_,_,_,h3⟩:=h;exact h3
def Kh(l:List Nd):Nd:=.mk 0 [] 0 0 l AA 0 0
theorem aK{w:Ad}{D:Nat→Prop}:∀ {ks:List Nd} {xs:List Ak} (_:D8 w D ks xs) (i:Nat),D8 w D (ks.eraseIdx i) (xs.take (i*9)++xs.drop (i*9+9))
 | [],xs,h,i=>by rw [show xs=[] from h];simp;exact NK
 | t::ts,xs,h,0=>by
  obtain ⟨v,r,rfl,h1,h⟩:=h;simpa [Cs] using h
 | t::ts,xs,h,i+1=>by
  obtain ⟨v,r,rfl,h1,h⟩:=h;have e:(Cs t v).length=9:=rfl;have:=aK h i;rw [show (i+1)*9=9+i*9 by omega,Ih,HN,Ic O,HZ O,e,show 9+i*9-9=i*9 by omega,show 9+i*9+9-9=i*9+9 by omega,HA,Ik];exact ⟨v,_,rfl,h1,this⟩
def JQ(t:Nd)(l:List Nd):Nd:=.mk t.c t.i t.num t.m l t.ty t.ref t.up
theorem Wi{α:Type}(f:Nd→List α→α)(z:α)(hz:Iq f EN=z)(t:Nd)(i:Nat):(t.b.map (Iq f)).getD i z=Iq f (V t i):=by
 unfold V;simp only [Jo,Jm]
 cases t.b[i]? with
 | none=>exact hz.symm
 | some k=>rfl
def OG(t:Nd):List Nd:=Iq (fun t ls=>(Cl t.b.length).flatMap fun i=>(bif Ae (t.c=10) then [JQ t (t.b.eraseIdx i)] else [])++(ls.getD i []).map fun c=>JQ t (t.b.set i c)) t
def X0(t:Nd)(i:Nat):List Nd:=(bif Ae (t.c=10) then [JQ t (t.b.eraseIdx i)] else [])++(OG (V t i)).map fun c=>JQ t (t.b.set i c)
theorem sN(t:Nd):OG t=(Cl t.b.length).flatMap (X0 t):=by
 unfold OG;rw [Lh];refine congrArg (fun f=>(Cl t.b.length).flatMap f) (funext fun i=>?_);rw [Wi _ [] rfl];rfl
def H2(t:Nd):List (List Nat):=Iq (fun t ls=>(Cl t.b.length).flatMap fun i=>(bif Ae (t.c=10) then [[i]] else [])++(ls.getD i []).map (i :: ·)) t
def OP(t:Nd)(i:Nat):List (List Nat):=(bif Ae (t.c=10) then [[i]] else [])++(H2 (V t i)).map (i :: ·)
theorem PE(t:Nd):H2 t=(Cl t.b.length).flatMap (OP t):=by
 unfold H2;rw [Lh];refine congrArg (fun f=>(Cl t.b.length).flatMap f) (funext fun i=>?_);rw [Wi _ [] rfl];rfl
def F6:List Nat→Nd→Nd
 | [],t=>t
 | [i],t=>JQ t (t.b.eraseIdx i)
 | i::j::q,t=>JQ t (t.b.set i (F6 (j::q) (V t i)))
theorem Tn{q:List Nat}(h:q≠[])(i:Nat)(t:Nd):F6 (i::q) t=JQ t (t.b.set i (F6 q (V t i))):=by
 cases q with
 | nil=>exact absurd rfl h
 | cons j q=>rfl
inductive ME:List Nat→Nd→Prop
  | one {t:Nd} {i:Nat} (h:t.c=10) (hi:i<t.b.length):ME [i] t
  | cons {t:Nd} {i:Nat} {q:List Nat} (hi:i<t.b.length) (h:ME q (V t i)):ME (i::q) t
theorem ME.W{q:List Nat}{t:Nd}(h:ME q t):q≠[]:=by cases h <;> exact fun h=>by cases h
theorem TC:∀ t,∀ q∈H2 t,ME q t:=by
 refine Nd.ao fun t ih q hq=>?_;rw [PE] at hq;obtain ⟨i,hi,hq⟩:=List.mem_flatMap.1 hq;have hi:=GB.1 hi;rcases List.mem_append.1 hq with hq|hq;cases h:Ae (t.c=10);rw [h] at hq;cases hq;rw [h] at hq;rw [Zm.1 hq];exact .one (AV h) hi;obtain ⟨q',aa,rfl⟩:=Ke.1 hq;rw [D6 hi] at aa;exact .cons hi (by rw [D6 hi];exact ih _ (FB hi) _ aa)
theorem SM{α β:Type}(f:α→β):∀ (l:List α) (i:Nat),(l.eraseIdx i).map f=(l.map f).eraseIdx i
 | [],_=>rfl
 | a::l,0=>rfl
 | a::l,i+1=>congrArg (f a :: ·) (SM f l i)
theorem eY{α β:Type}{l:List α}{f g:α→List β}(h:∀ x∈l,f x=g x):l.flatMap f=l.flatMap g:=by
 induction l with
 | nil=>rfl
 | cons a l ih=>rw [List.flatMap_cons,List.flatMap_cons,h a Hf,ih fun x hx=>h x (Gx _ hx)]
theorem wO:∀ t,OG t=(H2 t).map fun q=>F6 q t:=by
 refine Nd.ao fun t ih=>?_;rw [sN,PE,List.map_flatMap];refine eY fun i hi=>?_;have hi:=GB.1 hi;unfold X0 OP;rw [HJ];congr 1;cases Ae (t.c=10) <;> rfl
 rw [NI,D6 hi,ih _ (FB hi),NI];refine It fun q hq=>?_;show JQ t (t.b.set i (F6 q t.b[i]))=F6 (i::q) t;rw [Tn (TC _ q hq).W,D6 hi]
theorem Xw(t:Nd)(l:List Nd):Et (JQ t l)=JQ (Et t) (l.map Et):=by
 rw [PF,PF t];rfl
theorem X2(t:Nd)(i:Nat):V (Et t) i=Et (V t i):=by
 have:=Wi (fun t l=>Nd.mk t.c t.i (HG t) 0 l AA 0 0) EN (show Et EN=EN from rfl) t i;unfold V;rw [PK];exact this
theorem WU:∀ (q:List Nat) (t:Nd),Et (F6 q t)=F6 q (Et t)
 | [],t=>rfl
 | [i],t=>by
  show Et (JQ t _)=JQ _ _;rw [Xw,PK,SM]
 | i::j::q,t=>by
  show Et (JQ t _)=JQ _ ((Et t).b.set i (F6 (j::q) (V (Et t) i)));rw [Xw,PK,X2,← WU (j::q),Ny]
theorem iE(t:Nd):(Et t).c=t.c:=by rw [PF];rfl
theorem bF:∀ t,H2 (Et t)=H2 t:=by
 refine Nd.ao fun t ih=>?_;rw [PE,PE t,tK];refine eY fun i hi=>?_;have hi:=GB.1 hi;unfold OP;rw [iE,X2,D6 hi,ih _ (FB hi)]
theorem Vq(t:Nd):OG (Et t)=(H2 t).map fun q=>Et (F6 q t):=by
 rw [wO,bF];exact It fun q _=>(WU q t).symm
theorem UI:∀ (l:List Nat) (i x:Nat) (h:i<l.length),(l.set i x).sum+l[i]=l.sum+x
 | a::l,0,x,_=>by simp;omega
 | a::l,i+1,x,h=>by have:=UI l i x (by simpa using h);simp at this ⊢;omega
theorem Up:∀ (l:List Nat) (i:Nat) (h:i<l.length),(l.eraseIdx i).sum+l[i]=l.sum
 | a::l,0,_=>by simp;omega
 | a::l,i+1,h=>by have:=Up l i (by simpa using h);simp at this ⊢;omega
theorem Xe{q:List Nat}{t:Nd}(h:ME q t):count (F6 q t)<count t:=by
 induction h with
 | @one t i hk hi =>
  show count (JQ t (t.b.eraseIdx i))<_;rw [Iy,Iy t];show 1+((t.b.eraseIdx i).map count).sum<_;have:=Up (t.b.map count) i (by simpa using hi);rw [← SM] at this;have hp:=JJ t.b[i];simp only [Gg] at this;omega
 | @cons t i q hi h ih =>
  rw [Tn h.W,Iy,Iy t];show 1+((t.b.set i _).map count).sum<_;have:=UI (t.b.map count) i (count (F6 q (V t i))) (by simpa using hi);rw [Ny];rw [D6 hi] at ih this ⊢;simp only [Gg] at this;omega
def Hr(t:Nd):Nat:=Iq (fun t l=>(bif Ae (t.c=10) then t.b.length else 0)+l.sum) t
theorem Pg(t:Nd):Hr t=(bif Ae (t.c=10) then t.b.length else 0)+(t.b.map Hr).sum:=Lh _ t
theorem wQ{q:List Nat}{t:Nd}(h:ME q t):Hr (F6 q t)<Hr t:=by
 induction h with
 | @one t i hk hi =>
  show Hr (JQ t (t.b.eraseIdx i))<_;rw [Pg,Pg t];show (bif Ae (t.c=10) then (t.b.eraseIdx i).length else 0)+((t.b.eraseIdx i).map Hr).sum<_;have:=Up (t.b.map Hr) i (by simpa using hi);rw [← SM] at this;have hl:=List.length_eraseIdx_of_lt hi;rw [BW hk];simp only [A8];omega
 | @cons t i q hi h ih =>
  rw [Tn h.W,Pg,Pg t];show (bif Ae (t.c=10) then (t.b.set i _).length else 0)+((t.b.set i _).map Hr).sum<_;have:=UI (t.b.map Hr) i (Hr (F6 q (V t i))) (by simpa using hi);rw [Ny,List.length_set];rw [D6 hi] at ih this ⊢;simp only [Gg] at this;omega
theorem Yv:∀ (n:Nat) (f:Nat→List (List Nat)),((Cl n).flatMap f).length=((Cl n).map fun i=>(f i).length).sum
 | 0,_=>rfl
 | n+1,f=>by rw [List.range_succ,Jb,HJ,CW,List.sum_append,Yv n f];simp
theorem iL(l:List Nd)(f:Nd→Nat):((Cl l.length).map fun i=>f (l.getD i EN)).sum=(l.map f).sum:=by
 congr 1;refine List.ext_getElem BI fun i h1 h2=>?_;have:i<l.length:=by simpa using h2
 simp [Jo,I4 this]
theorem Aap(l:List Nat)(c:Nat)(f:Nat→Nat):(l.map fun i=>c+f i).sum=l.length*c+(l.map f).sum:=by
 induction l with
 | nil=>simp
 | cons a l ih=>simp only [EG,LD,FS,ih,Nat.add_mul];omega
theorem Vs:∀ t,(H2 t).length=Hr t:=by
 refine Nd.ao fun t ih=>?_;rw [PE,Pg,Yv]
 have e:((Cl t.b.length).map fun i=>(OP t i).length)=(Cl t.b.length).map fun i=>(bif Ae (t.c=10) then 1 else 0)+Hr (t.b.getD i EN):=by
  refine It fun i hi=>?_;have hi:=GB.1 hi;unfold OP;rw [CW,DV,D6 hi,ih _ (FB hi),← D6 hi];congr 1;cases Ae (t.c=10) <;> rfl
 rw [e,Aap,iL,List.length_range];congr 1;cases Ae (t.c=10) <;> simp
theorem Ul:∀ t,Hr t+1≤count t:=by
 refine Nd.ao fun t ih=>?_;rw [Pg,Iy]
 have h:t.b.length+(t.b.map Hr).sum≤(t.b.map count).sum:=by
  generalize t.b=l at ih
  induction l with
  | nil=>exact Bh _
  | cons a l h =>
   have h1:=ih a Hf;have h2:=h fun k hk=>ih k (Gx _ hk);simp only [FS,EG,LD];omega
 cases Ae (t.c=10) <;> simp only [A8,A0] <;> omega
def Adp(t:Nd):Nat:=Iq (fun t l=>(bif Ae (t.c=21) then 1 else 0)+l.sum) t
theorem X3:∀ t,count (Et t)=count t:=by
 refine Nd.ao fun t ih=>?_;rw [Iy,Iy t,PK,NI];congr 2;exact It fun k hk=>ih k hk
def La(t:Nd):Bool:=Ae ((Fs t).2.2=0)
def FI(t:Nd):List Nd:=bif La t then (OG (Et t)).filter La else []
theorem U3{t c:Nd}(h:c∈FI t):La t=true∧La c=true∧∃ q∈H2 t,c=Et (F6 q t):=by
 unfold FI at h;cases ha:La t;rw [ha] at h;cases h;rw [ha] at h;obtain ⟨h1,h2⟩:=List.mem_filter.1 h;rw [Vq] at h1;obtain ⟨q,hq,rfl⟩:=Ke.1 h1;exact ⟨rfl,h2,q,hq,rfl⟩
theorem UE{t c:Nd}(h:c∈FI t):count c<count t:=by
 obtain ⟨_,_,q,hq,rfl⟩:=U3 h;rw [X3];exact Xe (TC t q hq)
theorem iO:∀ t,Hr (Et t)=Hr t:=fun t=>by rw [← Vs,bF,Vs]
theorem lU{t c:Nd}(h:c∈FI t):Hr c<Hr t:=by
 obtain ⟨_,_,q,hq,rfl⟩:=U3 h;rw [iO];exact wQ (TC t q hq)
theorem ZV(t:Nd):(FI t).length≤Hr t:=by
 unfold FI;cases La t;exact Fe _;show ((OG (Et t)).filter La).length≤_;refine AN (List.length_filter_le _ _) ?_;rw [Vq,DV,Vs];exact Bh _
set_option maxHeartbeats 2000000
theorem NA(t:Nd){v:Ak}{D:Nat→Prop}{w:Ad}{m0:Nat}(Z:List Nat)(hk:Bo w D t.b v)(hc:count t≤1000000)(hZ:∀ j∈Z,j<w.heap.size)(hm:m0≤w.heap.size):Bx Aj 28 #[BV t v] w fun r w'=>(∃ p c,r=BV (Dx t) (.slice p (Dx t).b.length c)∧m0≤w.heap.size∧EP w.heap.size Z w' (Dx t).b (.slice p (Dx t).b.length c))∧G w w' :=
 (xC t v D w hk hc).mono fun r w' hr=>by
 obtain ⟨⟨p,c,e,k⟩,h1⟩:=hr;exact ⟨⟨p,c,e,hm,FN.x k hZ⟩,h1⟩
theorem yJ{t:Nd}(hx:Eh t=true)(h1:t.c≠10)(h2:t.c≠18)(h3:t.c≠12)(h4:t.c≠22)(h5:t.c≠6)(h6:t.c≠11)(h7:t.c≠19)(h8:t.c≠20):1≤t.b.length∧Cg (V t 0)=true:=by
 rcases jT hx with k|k|k|k|k|k|k|k|k|k|k|k|k|k;exact absurd k h5;exact absurd k h1;exact absurd k h6;exact absurd k h3;obtain ⟨q,r⟩:=Zi k hx;exact ⟨O,r⟩;obtain ⟨q,r⟩:=aZ k hx;exact ⟨O,r⟩;obtain ⟨q,r⟩:=ZT k hx;exact ⟨O,r⟩;obtain ⟨q,r,_⟩:=Ve k hx;exact ⟨O,r⟩;obtain ⟨q,r⟩:=eM k hx;exact ⟨O,r⟩;obtain ⟨q,r⟩:=WP k hx;exact ⟨O,r⟩;exact absurd k h2;exact absurd k h4;exact absurd k h8;exact absurd k h7
theorem tN{F t:Nd}(H':∀ i,i<t.b.length→KD F (V t i))(HB:El t=true→Dy F 82 t (Ah F t).p)(HI:HV t=true→Dy F 83 t (Ah F t).ifs)
 (HS:t.c=22→Dy F 85 t (QK t (Ax F t))) (hx:Eh t=true):Dy F 64 t (Ah F t).st:=by
 intro n0 b S w v N h aa hb bg;have da:(Ah F t).st S=DH F t (Ax F t) S:=by rw [GL];rfl
 rw [da];obtain ⟨p,c,rfl,_⟩:=id aa;have fm:=h.lt;have fp:=Ej t;have ct:=JJ t;have g:=AP.refl DQ n0 w;refine Cj 263 [0,1] Tryz.func64 ?_;refine CN fun b3 _ ga _ g E=>?_;have h:=Ar h;have aa:=Ar aa;refine A1 fun b4 _ ga _ g E=>?_;have h:=Ar h;have aa:=Ar aa;refine R ?_;refine AK (H9 t _ _ _) ?_;rintro _ _ ⟨rfl,ga⟩;refine AY fun g E=>?_;have h:=AO h;have aa:=AO aa;refine A1 fun b5 _ ga _ g E=>?_;have h:=Ar h;have aa:=Ar aa;refine AR fun _ ga Ca g E h=>?_;have aa:=Cq aa;refine Az (fun h1=>?_) fun h1=>?_;have h1:t.c=10:=AV h1;refine R ?_;refine AK (Dy.to (HB (Sk h1 hx)) [b3,b4,b5] h aa hb bg (E.O Bq) g.size) ?_;rintro _ _ ⟨⟨fg,ff,rfl,dl,b1⟩,h,ga⟩;refine AY fun g E=>?_;refine AR fun _ ga Ca g E h=>?_;have b1:=AM b1;refine AC ?_;have e:DH F t (Ax F t) S=(Ah F t).p S:=by unfold DH;rw [BW h1,GL F t];rfl
 rw [e];exact ⟨BR rfl (b1.Y dl),h,g⟩;have h1:t.c≠10:=CM h1;refine Az (fun h2=>?_) fun h2=>?_;have h2:t.c=18:=AV h2;refine R ?_;refine AK (Dy.to (HI (SE h2 hx)) [b3,b4,b5] h aa hb bg (E.O Bq) g.size) ?_;rintro _ _ ⟨⟨fy,fk,rfl,dd,bs⟩,h,ga⟩;refine AY fun g E=>?_;refine AR fun _ ga Ca g E h=>?_;have bs:=AM bs;refine AC ?_;have e:DH F t (Ax F t) S=(Ah F t).ifs S:=by unfold DH;rw [Aq h1,BW h2,GL F t];rfl
 rw [e];exact ⟨BR rfl (bs.Y dd),h,g⟩;have h2:t.c≠18:=CM h2;refine Az (fun h3=>?_) fun h3=>?_;have h3:t.c=12:=AV h3;refine R ?_;refine AK (Dy.to (sL H' h3 hx) [b3,b4,b5] h aa hb bg (E.O Bq) g.size) ?_;rintro _ _ ⟨⟨fs,fw,rfl,dp,br⟩,h,ga⟩;refine AY fun g E=>?_;refine AR fun _ ga Ca g E h=>?_;have br:=AM br;refine AC ?_;have hl:=(V3 h3 hx).1
 have e:DH F t (Ax F t) S=KH t (Fz F t) S:=by
  unfold DH;rw [Aq h1,Aq h2,BW h3];show KH t (Ax F t) S=_;unfold KH;rw [Dz (show 0<t.b.length by omega),Dz (show 1<t.b.length by omega)];rfl
 rw [e];exact ⟨BR rfl (br.Y dp),h,g⟩;have h3:t.c≠12:=CM h3;refine Az (fun h4=>?_) fun h4=>?_;have h4:t.c=22:=AV h4;refine R ?_;refine AK (Dy.to (HS h4) [b3,b4,b5] h aa hb bg (E.O Bq) g.size) ?_;rintro _ _ ⟨⟨fo,fj,rfl,df,bq⟩,h,ga⟩;refine AY fun g E=>?_;refine AR fun _ ga Ca g E h=>?_;have bq:=AM bq;refine AC ?_;have e:DH F t (Ax F t) S=QK t (Ax F t) S:=by unfold DH;rw [Aq h1,Aq h2,Aq h3,BW h4];rfl
 rw [e];exact ⟨BR rfl (bq.Y df),h,g⟩;have h4:t.c≠22:=CM h4;refine Az (fun h5=>?_) fun h5=>?_;have h5:t.c=6:=AV h5;obtain ⟨_,hl,fc,dq⟩:=Yi (dL h5 hx);have cd:=Oq hl;have c0:=JJ (V t 0);have Q1:=H' 1 O;have a4:=(Ry F (V t 0) S).bd _ hb;have bn:=(((EE F (V t 1)).ex (D0 F (V t 0) S)).C (EL (BF (V t 0)).1 ((Ah F (V t 1)).ex (D0 F (V t 0) S)).1.ty) (V t 1).m 7).bd _ a4;obtain ⟨hpe,e1,ej,hcell,ad⟩:=Ba aa (i:=0) O;refine R ?_;refine AK (Wy (V t 0) _ _ h) ?_;rintro _ _ ⟨rfl,h,ga⟩;refine AY fun g E=>?_;have aa:=F0 aa;refine A1 fun b6 _ ga _ g E=>?_;have h:=Ar h;have aa:=Ar aa;refine AR fun _ ga Ca g E h=>?_;have aa:=Cq aa;obtain ⟨hpe,eo,eh,hcell,ad⟩:=Ba aa (i:=1) O;refine R ?_;refine AK (H9 (V t 1) _ _ _) ?_;rintro _ _ ⟨rfl,ga⟩;refine AY fun g E=>?_;have h:=AO h;have aa:=AO aa;refine A1 fun b7 _ ga _ g E=>?_;have h:=Ar h;have aa:=Ar aa;refine AR fun _ ga Ca g E h=>?_;have aa:=Cq aa;obtain ⟨hpe,e3,e4,hcell,ad⟩:=Ba aa (i:=1) O;refine Az (fun h6=>?_) fun h6=>?_;have h6:(V t 1).c≠9:=by simpa using h6
 have bv:Cg (V t 1)=true:=dq.resolve_left fun h=>h6 (JS h).1;obtain ⟨hpe,eb,fa,hcell,ad⟩:=Ba aa (i:=1) O;refine R ?_;refine AK (Dy.to (Q1.ex bv) [b3,b4,b5,b6,b7] h ad a4 O (E.O Bq) g.size) ?_;rintro _ _ ⟨⟨fx,fe,rfl,cp,af⟩,h,ga⟩;refine AY fun g E=>?_;have aa:=F0 aa;refine AR fun _ ga Ca g E h=>?_;have aa:=Cq aa;have af:=AM af;refine R ?_;refine DA (O0 _ _ _) (fun fb a9=>?_);have g:=Cc g a9;replace E:=E.a a9;have h:=h.a (a9);have aa:=aa.a (a9);have af:=af.a (a9);refine Az (fun h7=>?_) fun h7=>?_;have hr:EL (BF (V t 0)).1 ((Ah F (V t 1)).ex (D0 F (V t 0) S)).1.ty=false:=by simpa using h7
 obtain ⟨hpe,ew,ey,hcell,ad⟩:=Ba aa (i:=1) O;refine R ?_;refine AK (F5 (V t 1).m 7 h) ?_;rintro _ _ ⟨rfl,h,ga⟩;refine AY fun g E=>?_;have aa:=F0 aa;have af:=DP af;have eT:DI (V t 1).m 7 ((Ah F (V t 1)).ex (D0 F (V t 0) S)).2=AH (EL (BF (V t 0)).1 ((Ah F (V t 1)).ex (D0 F (V t 0) S)).1.ty) (V t 1).m 7 ((Ah F (V t 1)).ex (D0 F (V t 0) S)).2:=by rw [hr];rfl
 rw [eT] at h;refine R ?_;skip;refine IH [3,0,3,0,1,0,1,3,2] [true,true,true,true,true,false,true,true,true] [0,1,3,7,15,0,63,127,255] CI Ai ?_;refine Db fun g E h=>?_;have aa:=aa.a (G.drew _);have af:=af.a (G.drew _);have EC:=E;obtain ⟨hpe,bi,bk,hcell,ad⟩:=Ba aa (i:=0) O;refine R ?_;refine AK (NA (V t 0) [b3,b4,b5,b6,b7] ad O (E.O Bq) g.size) ?_;rintro _ _ ⟨⟨ci,cg,rfl,be,ae⟩,ga⟩;refine AY fun g E=>?_;have h:=AO h;have af:=AO af;refine Jq U (A2 A3 (H U) U (fun _=>EC.E.row)) (Ch fun _ _ ga a7 g E=>?_);have af:=Bp af;have ae:=Bp ae;have h:=Ar h;refine AR fun _ ga Ca g E h=>?_;have af:=AM af;have ae:=AM ae;refine AR fun _ ga Ca g E h=>?_;have af:=AM af;have ae:=AM ae;refine R ?_;refine AK (P8 t.i (BF (V t 0)).1 t.m h (by first|exact bn|exact a4) O) ?_;rintro _ _ ⟨rfl,h,ga⟩;refine AY fun g E=>?_;have af:=DP af;have ae:=DP ae;refine AR fun _ ga Ca g E h=>?_;have af:=AM af;have ae:=AM ae;refine BL [0,3,4,5] ?_;refine AR fun _ ga Ca g E h=>?_;have af:=AM af;have ae:=AM ae;refine AC ?_
 have e:DH F t (Ax F t) S=(JL t [Dx (V t 0),((Ah F (V t 1)).ex (D0 F (V t 0) S)).1] (Ed (AH (EL (BF (V t 0)).1 ((Ah F (V t 1)).ex (D0 F (V t 0) S)).1.ty) (V t 1).m 7 ((Ah F (V t 1)).ex (D0 F (V t 0) S)).2)),GF t.i (BF (V t 0)).1 t.m (AH (EL (BF (V t 0)).1 ((Ah F (V t 1)).ex (D0 F (V t 0) S)).1.ty) (V t 1).m 7 ((Ah F (V t 1)).ex (D0 F (V t 0) S)).2)):=by
  unfold DH;rw [Aq h1,Aq h2,Aq h3,Aq h4,BW h5];show Iv F t (Ax F t) S=_;unfold Iv;rw [Dz (show 1<t.b.length by omega),Aq h6];rfl
 rw [e];exact ⟨BR (t:=JL t [_,_] _) rfl (D9 (ks:=[_,_]) ⟨a7,DK E.E⟩ E.E.row (F2 (ae.Y be) (Dh (af.Y cp))) (Bh _)),h,g⟩;have hr:EL (BF (V t 0)).1 ((Ah F (V t 1)).ex (D0 F (V t 0) S)).1.ty=true:=by simpa using h7
 have eT:((Ah F (V t 1)).ex (D0 F (V t 0) S)).2=AH (EL (BF (V t 0)).1 ((Ah F (V t 1)).ex (D0 F (V t 0) S)).1.ty) (V t 1).m 7 ((Ah F (V t 1)).ex (D0 F (V t 0) S)).2:=by rw [hr];rfl
 rw [eT] at h;refine R ?_;skip;refine IH [3,0,3,0,1,0,1,3,2] [true,true,true,true,true,false,true,true,true] [0,1,3,7,15,0,63,127,255] CI Ai ?_;refine Db fun g E h=>?_;have aa:=aa.a (G.drew _);have af:=af.a (G.drew _);have EC:=E;obtain ⟨hpe,bi,bk,hcell,ad⟩:=Ba aa (i:=0) O;refine R ?_;refine AK (NA (V t 0) [b3,b4,b5,b6,b7] ad O (E.O Bq) g.size) ?_;rintro _ _ ⟨⟨ci,cg,rfl,be,ae⟩,ga⟩;refine AY fun g E=>?_;have h:=AO h;have af:=AO af;refine Jq U (A2 A3 (H U) U (fun _=>EC.E.row)) (Ch fun _ _ ga a7 g E=>?_);have af:=Bp af;have ae:=Bp ae;have h:=Ar h;refine AR fun _ ga Ca g E h=>?_;have af:=AM af;have ae:=AM ae;refine AR fun _ ga Ca g E h=>?_;have af:=AM af;have ae:=AM ae;refine R ?_;refine AK (P8 t.i (BF (V t 0)).1 t.m h (by first|exact bn|exact a4) O) ?_;rintro _ _ ⟨rfl,h,ga⟩;refine AY fun g E=>?_;have af:=DP af;have ae:=DP ae;refine AR fun _ ga Ca g E h=>?_;have af:=AM af;have ae:=AM ae;refine AR fun _ ga Ca g E h=>?_;have af:=AM af;have ae:=AM ae;refine AC ?_
 have e:DH F t (Ax F t) S=(JL t [Dx (V t 0),((Ah F (V t 1)).ex (D0 F (V t 0) S)).1] (Ed (AH (EL (BF (V t 0)).1 ((Ah F (V t 1)).ex (D0 F (V t 0) S)).1.ty) (V t 1).m 7 ((Ah F (V t 1)).ex (D0 F (V t 0) S)).2)),GF t.i (BF (V t 0)).1 t.m (AH (EL (BF (V t 0)).1 ((Ah F (V t 1)).ex (D0 F (V t 0) S)).1.ty) (V t 1).m 7 ((Ah F (V t 1)).ex (D0 F (V t 0) S)).2)):=by
  unfold DH;rw [Aq h1,Aq h2,Aq h3,Aq h4,BW h5];show Iv F t (Ax F t) S=_;unfold Iv;rw [Dz (show 1<t.b.length by omega),Aq h6];rfl
 rw [e];exact ⟨BR (t:=JL t [_,_] _) rfl (D9 (ks:=[_,_]) ⟨a7,DK E.E⟩ E.E.row (F2 (ae.Y be) (Dh (af.Y cp))) (Bh _)),h,g⟩;have h6:(V t 1).c=9:=by simpa using h6
 refine R ?_;skip;refine IH [3,0,3,0,1,0,1,3,2] [true,true,true,true,true,false,true,true,true] [0,1,3,7,15,0,63,127,255] CI Ai ?_;refine Db fun g E h=>?_;have aa:=aa.a (G.drew _);have EC:=E;obtain ⟨hpe,bi,bk,hcell,ad⟩:=Ba aa (i:=0) O;refine R ?_;refine AK (NA (V t 0) [b3,b4,b5,b6,b7] ad O (E.O Bq) g.size) ?_;rintro _ _ ⟨⟨ci,cg,rfl,be,ae⟩,ga⟩;refine AY fun g E=>?_;have h:=AO h;refine Jq U (A2 A3 (H U) U (fun _=>EC.E.row)) (Ch fun _ _ ga a7 g E=>?_);have ae:=Bp ae;have h:=Ar h;refine AR fun _ ga Ca g E h=>?_;have ae:=AM ae;refine AR fun _ ga Ca g E h=>?_;have ae:=AM ae;refine R ?_;refine AK (P8 t.i (BF (V t 0)).1 t.m h (by first|exact bn|exact a4) O) ?_;rintro _ _ ⟨rfl,h,ga⟩;refine AY fun g E=>?_;have ae:=DP ae;refine AR fun _ ga Ca g E h=>?_;have ae:=AM ae;refine AR fun _ ga Ca g E h=>?_;have ae:=AM ae;refine AC ?_
 have e:DH F t (Ax F t) S=(JL t [Dx (V t 0),DN (V t 1)] (Ed (D0 F (V t 0) S)),GF t.i (BF (V t 0)).1 t.m (D0 F (V t 0) S)):=by
  unfold DH;rw [Aq h1,Aq h2,Aq h3,Aq h4,BW h5];show Iv F t (Ax F t) S=_;unfold Iv;rw [BW h6];rfl
 rw [e];exact ⟨BR (t:=JL t [_,DN (V t 1)] _) rfl (D9 (ks:=[_,DN (V t 1)]) ⟨a7,DK E.E⟩ E.E.row (F2 (ae.Y be) (Dh (Iz _ _))) (Bh _)),h,g⟩;have h5:t.c≠6:=CM h5;refine Az (fun h8=>?_) fun h8=>?_;have h8:t.c=11:=AV h8;obtain ⟨_,hl,a6⟩:=Ze h8 hx;have cn:=P6 hl;have Q0:=H' 0 O;have cr:=(((EE F (V t 0)).ex S).C (E7 ((Ah F (V t 0)).ex S).1.ty) (V t 0).m 7).bd _ hb;obtain ⟨hpe,el,ep,hcell,ad⟩:=Ba aa (i:=0) O;refine R ?_;refine AK (Dy.to (Q0.ex a6) [b3,b4,b5] h ad hb O (E.O Bq) g.size) ?_;rintro _ _ ⟨⟨fq,fd,rfl,cf,ag⟩,h,ga⟩;refine AY fun g E=>?_;have aa:=F0 aa;refine A1 fun _ _ ga _ g E=>?_;have ag:=Bp ag;have h:=Ar h;have aa:=Ar aa;refine AR fun _ ga Ca g E h=>?_;have aa:=Cq aa;have ag:=AM ag;refine R ?_;refine DA (Ql _ _) (fun ed au=>?_);have g:=Cc g au;replace E:=E.a au;have h:=h.a (au);have aa:=aa.a (au);have ag:=ag.a (au);refine Az (fun h9=>?_) fun h9=>?_;have hr:E7 ((Ah F (V t 0)).ex S).1.ty=false:=by simpa using h9
 obtain ⟨hpe,dg,d2,hcell,ad⟩:=Ba aa (i:=0) O;refine R ?_;refine AK (F5 (V t 0).m 7 h) ?_;rintro _ _ ⟨rfl,h,ga⟩;refine AY fun g E=>?_;have ag:=DP ag;have eT:DI (V t 0).m 7 ((Ah F (V t 0)).ex S).2=(AH (E7 ((Ah F (V t 0)).ex S).1.ty) (V t 0).m 7 ((Ah F (V t 0)).ex S).2):=by rw [hr];rfl
 rw [eT] at h;refine Ch fun _ _ ga a3 g E=>?_;have ag:=Bp ag;have h:=Ar h;refine AR fun _ ga Ca g E h=>?_;have ag:=AM ag;refine AR fun _ ga Ca g E h=>?_;have ag:=AM ag;refine R ?_;refine AK (P8 t.i ((Ah F (V t 0)).ex S).1.ty t.m h cr O) ?_;rintro _ _ ⟨rfl,h,ga⟩;refine AY fun g E=>?_;have ag:=DP ag;refine AR fun _ ga Ca g E h=>?_;have ag:=AM ag;refine AR fun _ ga Ca g E h=>?_;have ag:=AM ag;refine AC ?_
 have e:DH F t (Ax F t) S=(JL t [((Ah F (V t 0)).ex S).1] (Ed (AH (E7 ((Ah F (V t 0)).ex S).1.ty) (V t 0).m 7 ((Ah F (V t 0)).ex S).2)),GF t.i ((Ah F (V t 0)).ex S).1.ty t.m (AH (E7 ((Ah F (V t 0)).ex S).1.ty) (V t 0).m 7 ((Ah F (V t 0)).ex S).2)):=by
  unfold DH;rw [Aq h1,Aq h2,Aq h3,Aq h4,Aq h5,BW h8];show My t (Ax F t) S=_;unfold My;rw [Dz (show 0<t.b.length by omega)]
 rw [e];exact ⟨BR (t:=JL t [_] _) rfl (D9 (ks:=[_]) ⟨a3,DK E.E⟩ E.E.row (Dh (ag.Y cf)) (Bh _)),h,g⟩;have hr:E7 ((Ah F (V t 0)).ex S).1.ty=true:=by simpa using h9
 have eT:((Ah F (V t 0)).ex S).2=(AH (E7 ((Ah F (V t 0)).ex S).1.ty) (V t 0).m 7 ((Ah F (V t 0)).ex S).2):=by rw [hr];rfl
 rw [eT] at h;refine Ch fun _ _ ga a3 g E=>?_;have ag:=Bp ag;have h:=Ar h;refine AR fun _ ga Ca g E h=>?_;have ag:=AM ag;refine AR fun _ ga Ca g E h=>?_;have ag:=AM ag;refine R ?_;refine AK (P8 t.i ((Ah F (V t 0)).ex S).1.ty t.m h cr O) ?_;rintro _ _ ⟨rfl,h,ga⟩;refine AY fun g E=>?_;have ag:=DP ag;refine AR fun _ ga Ca g E h=>?_;have ag:=AM ag;refine AR fun _ ga Ca g E h=>?_;have ag:=AM ag;refine AC ?_
 have e:DH F t (Ax F t) S=(JL t [((Ah F (V t 0)).ex S).1] (Ed (AH (E7 ((Ah F (V t 0)).ex S).1.ty) (V t 0).m 7 ((Ah F (V t 0)).ex S).2)),GF t.i ((Ah F (V t 0)).ex S).1.ty t.m (AH (E7 ((Ah F (V t 0)).ex S).1.ty) (V t 0).m 7 ((Ah F (V t 0)).ex S).2)):=by
  unfold DH;rw [Aq h1,Aq h2,Aq h3,Aq h4,Aq h5,BW h8];show My t (Ax F t) S=_;unfold My;rw [Dz (show 0<t.b.length by omega)]
 rw [e];exact ⟨BR (t:=JL t [_] _) rfl (D9 (ks:=[_]) ⟨a3,DK E.E⟩ E.E.row (Dh (ag.Y cf)) (Bh _)),h,g⟩;have h8:t.c≠11:=CM h8;refine Az (fun aj=>?_) fun aj=>?_;have aj:t.c=19:=AV aj;obtain ⟨hl,h0,de⟩:=Tj aj hx;have cd:=Oq hl;have Q1:=H' 1 O;have du:E5 p<n0:=Gk aa (show 0<t.b.length by omega);have C0:Dy F 88 (V t 0) (GJ (V t 0) (Ah F (V t 0))):=Yt (F:=F) (t:=V t 0) (fun h9=>(H' 0 O).ex (h0.resolve_left fun h=>h9 (JS h).1));have cu:=(WT F (V t 0) S).bd _ hb;obtain ⟨hpe,c9,c8,hcell,ad⟩:=Ba aa (i:=0) O;refine R ?_;refine AK (Dy.to (C0) [b3,b4,b5] h ad hb O (E.O Bq) g.size) ?_;rintro _ _ ⟨⟨em,ez,rfl,e8,a5⟩,h,ga⟩;refine AY fun g E=>?_;have aa:=F0 aa;refine Ch fun a8 _ ga bm g E=>?_;have a5:=Bp a5;have h:=Ar h;have aa:=Ar aa;have c3:=E.W 0 1 rfl rfl rfl;have c7:=E.W 0 2 rfl rfl rfl;have c4:=E.W 0 3 rfl rfl rfl;have ah:Dl [b3,b4,b5] w.heap.size _ [(GJ (V t 0) (Ah F (V t 0)) S).1] (.slice (some ⟨a8,0,none⟩) 1 1):=M1 E.E bm (a5.mono fun k hk _=>⟨⟨⟨by have:=hk.1.1;omega,by have:=hk.1.2;simp at this ⊢;omega⟩,hk.2⟩,by have:=hk.1.2;simp at this;omega⟩) ⟨⟨bm,by simp;omega⟩,DK E.E⟩;refine AR fun _ ga Ca g E h=>?_;have aa:=Cq aa;have ah:=DO ah;refine R ?_;refine DE (Q7 n0) [3,0,3,3,0,3,0,1,1,2,3,2] [0,1,0,0,8,24,56,124,252,511,1023,2047] CI Ai [0,1,2,3,4,5,6,7,8,9,10,11] U ?_;refine Db fun g E h=>?_;have aa:=aa.a (G.drew _);have ah:=ah.a (G.drew _)
 refine Au 0 U U (fun _=>AE AW (H U)) (Bg 1 U U (fun w1 hx=>AU Bj (H U) (fun _=>(E.Q.gt hx U).j U)) (Au 2 U U (fun _=>A9 (H U)) (Au 3 U U (fun _=>AE AW (H U)) (Bg 4 U U (fun w1 hx=>AU Bj (H U) (fun _=>(E.g3.gt hx U).j U)) (?_)))));obtain ⟨hpe,d0,dz,hcell,ad⟩:=Ba aa (i:=1) O;refine Au 5 U U (fun _=>CS AB (H U) Bl (fun _=>O) (fun _=>hpe)) (Bg 6 U U (fun w1 hx=>A2 A3 (H U) U (fun _=>hcell.gt hx du)) (AQ 7 U U ?_));refine Br (L':=[8,9,10,11]) [3,0,3,3,0,3,0,2,1,2,3,2] U U U ?_;refine AK (Dy.to (Q1.p de) [b3,b4,b5,a8] h ad cu O (E.O Bq) g.size) ?_;rintro e0 e7 ⟨⟨ek,d8,rfl,cq,ba⟩,h,a0⟩;refine ⟨E3,?_⟩;have g:=g.trans a0;replace E:=E.gt a0 rfl;have ah:=ah.gt a0 rfl;refine Bs (a0) ?_;refine AQ 8 U U ?_;refine Br (L':=[9,10,11]) [3,0,3,3,0,3,0,2,1,2,3,2] U U U ?_;refine Ch fun _ _ a2 _ g E=>?_;have ba:=ba.new a2;have h:=h.a (a2.g);have ah:=ah.a (a2.g);have cb:=E.W 0 1 rfl rfl rfl;refine Bs (AP.J (a2.g)) ?_;refine AQ 9 U U ?_;refine Ds (L':=[10,11]) [3,0,3,3,0,3,0,2,1,2,3,2] U U U U ?_;have hOo:=ah;refine Hq U AB Ck U (H U) ah (H U) U E.E.row (Fq ba cq D2 (fun j hj=>by obtain rfl:a8=j:=(by injection hj);simp)) BI Dj ⟨by have:=g.size;omega,by have q3:=E.g4.lt;have q4:=E.g3.lt;have q5:=E.g2.lt;simp;omega⟩ ?_;intro e5 eu ei ah ax;replace E:=E.sel [false,false,true,true,true];replace E:=E.ab ax hOo.W Bq
 have g:=EY g ax Fm;have h:=h.aa ax hOo O;refine Dr ?_;refine Au 10 U U (fun _=>AE AW (H U)) (AQ 11 U U ?_);refine Ds (L':=[]) [3,0,3,3,0,3,0,2,1,2,3,2] U U U U ?_;refine AR fun _ ga Ca g E h=>?_;have ah:=DO ah;refine Dr ?_;refine Dp [0,3,4,5] ?_;refine AR fun _ ga Ca g E h=>?_;have ah:=DO ah;refine AC ?_
 have e:DH F t (Ax F t) S=(AJ t [(GJ (V t 0) (Ah F (V t 0)) S).1,((Ah F (V t 1)).p (GJ (V t 0) (Ah F (V t 0)) S).2).1] AA,((Ah F (V t 1)).p (GJ (V t 0) (Ah F (V t 0)) S).2).2):=by
  unfold DH;rw [Aq h1,Aq h2,Aq h3,Aq h4,Aq h5,Aq h8,BW aj];show M3 t (Ax F t) S=_;unfold M3;rw [Dz (show 0<t.b.length by omega),Dz (show 1<t.b.length by omega)]
 rw [e];exact ⟨BR (t:=AJ t [_,_] AA) rfl ah.kd,h,g⟩;have aj:t.c≠19:=CM aj;refine Az (fun ak=>?_) fun ak=>?_;have ak:t.c=20:=AV ak;obtain ⟨d9,bj⟩:=XN ak hx;have c1:=(RD (!Ap (Ae ((t.b.length:Int)=1)) (!BP S.o AA)) t.m 7 S).bd _ hb;refine R ?_;refine C9 [3,0,3,3,3,3,3,0,3,3,3] ?_;refine Db fun g E h=>?_;have aa:=aa.a (G.drew _);obtain ⟨fv,sv,sn,h⟩:=h;refine Az (fun bw=>?_) fun bw=>?_;have hr:Ap (Ae ((t.b.length:Int)=1)) (!BP S.o AA)=true:=bw;refine R ?_;refine AK (F5 t.m 7 h.ah) ?_;rintro _ _ ⟨rfl,h,ga⟩;refine AY fun g E=>?_;have aa:=F0 aa;have eS:DI t.m 7 S=(AH (!Ap (Ae ((t.b.length:Int)=1)) (!BP S.o AA)) t.m 7 S):=by rw [hr];rfl
 rw [eS] at h;refine Az (fun bf=>?_) fun bf=>?_;have bz:t.b.length=1:=by have:=AV bf;omega
 have a6:Cg (V t 0)=true:=IK bj O;have cn:=P6 bz;have Q0:=H' 0 O;have ar:Ae ((t.b.length:Int)=1)=true:=bf;obtain ⟨hpe,bo,bt,hcell,ad⟩:=Ba aa (i:=0) O;refine R ?_;refine AK (Dy.to (Q0.ex a6) [b3,b4,b5] h ad c1 O (E.O Bq) g.size) ?_;rintro _ _ ⟨⟨ce,ch,rfl,av,ab⟩,h,ga⟩;refine AY fun g E=>?_;have aa:=F0 aa;refine A1 fun _ _ ga l9 g E=>?_;have ab:=Bp ab;have h:=Ar h;have aa:=Ar aa;refine AR fun _ ga Ca g E h=>?_;have aa:=Cq aa;have ab:=AM ab;refine R ?_;refine C9 [3,3,3,0,3,0,1,3] ?_;refine Db fun g E h=>?_;have aa:=aa.a (G.drew _);have ab:=ab.a (G.drew _);obtain ⟨fv,sv,sn,h⟩:=h;refine R ?_;refine DA (O0 _ _ _) (fun cj am=>?_);have g:=Cc g am;replace E:=E.a am;have h:=h.a (am);have aa:=aa.a (am);have ab:=ab.a (am);refine Az (fun bu=>?_) fun bu=>?_;have ay:EL ((Ah F (V t 0)).ex (AH (!Ap (Ae ((t.b.length:Int)=1)) (!BP S.o AA)) t.m 7 S)).2.o ((Ah F (V t 0)).ex (AH (!Ap (Ae ((t.b.length:Int)=1)) (!BP S.o AA)) t.m 7 S)).1.ty=false:=by simpa using bu
 have h:=h.ah;obtain ⟨hpe,b2,b8,hcell,ad⟩:=Ba aa (i:=0) O;refine R ?_;refine AK (F5 (V t 0).m 7 h) ?_;rintro _ _ ⟨rfl,h,ga⟩;refine AY fun g E=>?_;have ab:=DP ab;refine Ch fun _ _ ga ao g E=>?_;have ab:=Bp ab;have h:=Ar h;refine AR fun _ ga Ca g E h=>?_;have ab:=AM ab;refine AR fun _ ga Ca g E h=>?_;have ab:=AM ab;refine AC ?_
 have e:DH F t (Ax F t) S=(AJ t [((Ah F (V t 0)).ex (AH (!Ap (Ae ((t.b.length:Int)=1)) (!BP S.o AA)) t.m 7 S)).1] AA,AH (EL ((Ah F (V t 0)).ex (AH (!Ap (Ae ((t.b.length:Int)=1)) (!BP S.o AA)) t.m 7 S)).2.o ((Ah F (V t 0)).ex (AH (!Ap (Ae ((t.b.length:Int)=1)) (!BP S.o AA)) t.m 7 S)).1.ty) (V t 0).m 7 ((Ah F (V t 0)).ex (AH (!Ap (Ae ((t.b.length:Int)=1)) (!BP S.o AA)) t.m 7 S)).2):=by
  unfold DH;rw [Aq h1,Aq h2,Aq h3,Aq h4,Aq h5,Aq h8,Aq aj,BW ak];show Iu t (Ax F t) S=_;unfold Iu;rw [Dz (show 0<t.b.length by omega),ar];rfl
 rw [e,ay];exact ⟨BR (t:=AJ t [_] AA) rfl (D9 (ks:=[_]) ⟨ao,DK E.E⟩ E.E.row (Dh (ab.Y av)) (Bh _)),h,g⟩;have ay:EL ((Ah F (V t 0)).ex (AH (!Ap (Ae ((t.b.length:Int)=1)) (!BP S.o AA)) t.m 7 S)).2.o ((Ah F (V t 0)).ex (AH (!Ap (Ae ((t.b.length:Int)=1)) (!BP S.o AA)) t.m 7 S)).1.ty=true:=by simpa using bu
 have h:=h.ah;refine Ch fun _ _ ga ao g E=>?_;have ab:=Bp ab;have h:=Ar h;refine AR fun _ ga Ca g E h=>?_;have ab:=AM ab;refine AR fun _ ga Ca g E h=>?_;have ab:=AM ab;refine AC ?_
 have e:DH F t (Ax F t) S=(AJ t [((Ah F (V t 0)).ex (AH (!Ap (Ae ((t.b.length:Int)=1)) (!BP S.o AA)) t.m 7 S)).1] AA,AH (EL ((Ah F (V t 0)).ex (AH (!Ap (Ae ((t.b.length:Int)=1)) (!BP S.o AA)) t.m 7 S)).2.o ((Ah F (V t 0)).ex (AH (!Ap (Ae ((t.b.length:Int)=1)) (!BP S.o AA)) t.m 7 S)).1.ty) (V t 0).m 7 ((Ah F (V t 0)).ex (AH (!Ap (Ae ((t.b.length:Int)=1)) (!BP S.o AA)) t.m 7 S)).2):=by
  unfold DH;rw [Aq h1,Aq h2,Aq h3,Aq h4,Aq h5,Aq h8,Aq aj,BW ak];show Iu t (Ax F t) S=_;unfold Iu;rw [Dz (show 0<t.b.length by omega),ar];rfl
 rw [e,ay];exact ⟨BR (t:=AJ t [_] AA) rfl (D9 (ks:=[_]) ⟨ao,DK E.E⟩ E.E.row (Dh (ab.Y av)) (Bh _)),h,g⟩;have ar:Ae ((t.b.length:Int)=1)=false:=bf;refine AR fun _ ga Ca g E h=>?_;refine AC ?_
 have e:DH F t (Ax F t) S=(AJ t [] AA,(AH (!Ap (Ae ((t.b.length:Int)=1)) (!BP S.o AA)) t.m 7 S)):=by
  unfold DH;rw [Aq h1,Aq h2,Aq h3,Aq h4,Aq h5,Aq h8,Aq aj,BW ak];show Iu t (Ax F t) S=_;unfold Iu;rw [ar];rfl
 rw [e];exact ⟨BR (t:=AJ t [] AA) rfl (Iz _ _),h,g⟩;have hr:Ap (Ae ((t.b.length:Int)=1)) (!BP S.o AA)=false:=bw;have h:=h.ah;have eS:S=(AH (!Ap (Ae ((t.b.length:Int)=1)) (!BP S.o AA)) t.m 7 S):=by rw [hr];rfl
 rw [eS] at h;refine Az (fun bh=>?_) fun bh=>?_;have bz:t.b.length=1:=by have:=AV bh;omega
 have a6:Cg (V t 0)=true:=IK bj O;have cn:=P6 bz;have Q0:=H' 0 O;have ar:Ae ((t.b.length:Int)=1)=true:=bh;obtain ⟨hpe,bo,bt,hcell,ad⟩:=Ba aa (i:=0) O;refine R ?_;refine AK (Dy.to (Q0.ex a6) [b3,b4,b5] h ad c1 O (E.O Bq) g.size) ?_;rintro _ _ ⟨⟨ce,ch,rfl,av,ab⟩,h,ga⟩;refine AY fun g E=>?_;have aa:=F0 aa;refine A1 fun _ _ ga _ g E=>?_;have ab:=Bp ab;have h:=Ar h;have aa:=Ar aa;refine AR fun _ ga Ca g E h=>?_;have aa:=Cq aa;have ab:=AM ab;refine R ?_;refine C9 [3,3,3,0,3,0,1,3] ?_;refine Db fun g E h=>?_;have aa:=aa.a (G.drew _);have ab:=ab.a (G.drew _);obtain ⟨fv,sv,sn,h⟩:=h;refine R ?_;refine DA (O0 _ _ _) (fun cj am=>?_);have g:=Cc g am;replace E:=E.a am;have h:=h.a (am);have aa:=aa.a (am);have ab:=ab.a (am);refine Az (fun b0=>?_) fun b0=>?_;have ay:EL ((Ah F (V t 0)).ex (AH (!Ap (Ae ((t.b.length:Int)=1)) (!BP S.o AA)) t.m 7 S)).2.o ((Ah F (V t 0)).ex (AH (!Ap (Ae ((t.b.length:Int)=1)) (!BP S.o AA)) t.m 7 S)).1.ty=false:=by simpa using b0
 have h:=h.ah;obtain ⟨hpe,b2,b8,hcell,ad⟩:=Ba aa (i:=0) O;refine R ?_;refine AK (F5 (V t 0).m 7 h) ?_;rintro _ _ ⟨rfl,h,ga⟩;refine AY fun g E=>?_;have ab:=DP ab;refine Ch fun _ _ ga ao g E=>?_;have ab:=Bp ab;have h:=Ar h;refine AR fun _ ga Ca g E h=>?_;have ab:=AM ab;refine AR fun _ ga Ca g E h=>?_;have ab:=AM ab;refine AC ?_
 have e:DH F t (Ax F t) S=(AJ t [((Ah F (V t 0)).ex (AH (!Ap (Ae ((t.b.length:Int)=1)) (!BP S.o AA)) t.m 7 S)).1] AA,AH (EL ((Ah F (V t 0)).ex (AH (!Ap (Ae ((t.b.length:Int)=1)) (!BP S.o AA)) t.m 7 S)).2.o ((Ah F (V t 0)).ex (AH (!Ap (Ae ((t.b.length:Int)=1)) (!BP S.o AA)) t.m 7 S)).1.ty) (V t 0).m 7 ((Ah F (V t 0)).ex (AH (!Ap (Ae ((t.b.length:Int)=1)) (!BP S.o AA)) t.m 7 S)).2):=by
  unfold DH;rw [Aq h1,Aq h2,Aq h3,Aq h4,Aq h5,Aq h8,Aq aj,BW ak];show Iu t (Ax F t) S=_;unfold Iu;rw [Dz (show 0<t.b.length by omega),ar];rfl
 rw [e,ay];exact ⟨BR (t:=AJ t [_] AA) rfl (D9 (ks:=[_]) ⟨ao,DK E.E⟩ E.E.row (Dh (ab.Y av)) (Bh _)),h,g⟩;have ay:EL ((Ah F (V t 0)).ex (AH (!Ap (Ae ((t.b.length:Int)=1)) (!BP S.o AA)) t.m 7 S)).2.o ((Ah F (V t 0)).ex (AH (!Ap (Ae ((t.b.length:Int)=1)) (!BP S.o AA)) t.m 7 S)).1.ty=true:=by simpa using b0
 have h:=h.ah;refine Ch fun _ _ ga ao g E=>?_;have ab:=Bp ab;have h:=Ar h;refine AR fun _ ga Ca g E h=>?_;have ab:=AM ab;refine AR fun _ ga Ca g E h=>?_;have ab:=AM ab;refine AC ?_
 have e:DH F t (Ax F t) S=(AJ t [((Ah F (V t 0)).ex (AH (!Ap (Ae ((t.b.length:Int)=1)) (!BP S.o AA)) t.m 7 S)).1] AA,AH (EL ((Ah F (V t 0)).ex (AH (!Ap (Ae ((t.b.length:Int)=1)) (!BP S.o AA)) t.m 7 S)).2.o ((Ah F (V t 0)).ex (AH (!Ap (Ae ((t.b.length:Int)=1)) (!BP S.o AA)) t.m 7 S)).1.ty) (V t 0).m 7 ((Ah F (V t 0)).ex (AH (!Ap (Ae ((t.b.length:Int)=1)) (!BP S.o AA)) t.m 7 S)).2):=by
  unfold DH;rw [Aq h1,Aq h2,Aq h3,Aq h4,Aq h5,Aq h8,Aq aj,BW ak];show Iu t (Ax F t) S=_;unfold Iu;rw [Dz (show 0<t.b.length by omega),ar];rfl
 rw [e,ay];exact ⟨BR (t:=AJ t [_] AA) rfl (D9 (ks:=[_]) ⟨ao,DK E.E⟩ E.E.row (Dh (ab.Y av)) (Bh _)),h,g⟩;have ar:Ae ((t.b.length:Int)=1)=false:=bh;refine AR fun _ ga Ca g E h=>?_;refine AC ?_
 have e:DH F t (Ax F t) S=(AJ t [] AA,(AH (!Ap (Ae ((t.b.length:Int)=1)) (!BP S.o AA)) t.m 7 S)):=by
  unfold DH;rw [Aq h1,Aq h2,Aq h3,Aq h4,Aq h5,Aq h8,Aq aj,BW ak];show Iu t (Ax F t) S=_;unfold Iu;rw [ar];rfl
 rw [e];exact ⟨BR (t:=AJ t [] AA) rfl (Iz _ _),h,g⟩;have ak:t.c≠20:=CM ak;refine R ?_;obtain ⟨fh,dm⟩:=yJ hx h1 h2 h3 h4 h5 h8 aj ak;have Qo:=H' 0 O;have di:=J5 (t:=t) (i:=0) O;rw [← D6 (show 0<t.b.length by omega)] at di;have dc:=((EE F (V t 0)).ex S).bd _ hb;obtain ⟨hpe,dv,dj,hcell,ad⟩:=Ba aa (i:=0) O;refine R ?_;refine AK (Dy.to (Qo.ex dm) [b3,b4,b5] h ad hb O (E.O Bq) g.size) ?_;rintro _ _ ⟨⟨d7,e2,rfl,a1,ac⟩,h,ga⟩;refine AY fun g E=>?_;have aa:=F0 aa;refine A1 fun cz _ ga _ g E=>?_;have ac:=Bp ac;have h:=Ar h;have aa:=Ar aa;refine AR fun _ ga Ca g E h=>?_;have aa:=Cq aa;have ac:=AM ac;refine Ch fun bc _ ga ap g E=>?_;have ac:=Bp ac;have h:=Ar h;have aa:=Ar aa;have ck:=E.W 0 1 rfl rfl rfl;have c5:=E.W 0 2 rfl rfl rfl;have c6:=E.W 0 3 rfl rfl rfl;have c2:=E.W 0 4 rfl rfl rfl;refine AR fun _ ga Ca g E h=>?_;have aa:=Cq aa;have ac:=AM ac;refine Az (fun an=>?_) fun an=>?_;have an:t.c=16:=AV an;obtain ⟨d1,_,bv⟩:=Ve an hx;have cd:=Oq d1;have Q1:=H' 1 O;refine R ?_;refine C9 [3,0,3,0,3,3,0,2] ?_;refine Db fun g E h=>?_;have aa:=aa.a (G.drew _);have ac:=ac.a (G.drew _);obtain ⟨hpe,dy,dx,hcell,ad⟩:=Ba aa (i:=0) O;refine R ?_;refine AK (LQ ((Ah F (V t 0)).ex S).1 _ _ 6 (V t 0).m h) ?_;rintro _ _ ⟨rfl,h,ga⟩;refine AY fun g E=>?_;have aa:=F0 aa;have ac:=DP ac
 obtain ⟨hpe,dw,d3,hcell,ad⟩:=Ba aa (i:=1) O;refine R ?_;refine AK (Dy.to (Q1.ex bv) [b3,b4,b5,cz,bc] h ad ((RD _ _ _ _).bd _ dc) O (E.O Bq) g.size) ?_;rintro _ _ ⟨⟨e6,et,rfl,cy,al⟩,h,ga⟩;refine AY fun g E=>?_;have aa:=F0 aa;have ac:=DP ac;refine A1 fun dk _ ga _ g E=>?_;have ac:=Bp ac;have al:=Bp al;have h:=Ar h;have aa:=Ar aa;have cw:=E.W 0 1 rfl rfl rfl;refine AR fun _ ga Ca g E h=>?_;have aa:=Cq aa;have ac:=AM ac;have al:=AM al;refine R ?_;refine C9 [3,0,3,0,3,3,0,2] ?_;refine Db fun g E h=>?_;have aa:=aa.a (G.drew _);have ac:=ac.a (G.drew _);have al:=al.a (G.drew _);obtain ⟨hpe,dt,d5,hcell,ad⟩:=Ba aa (i:=1) O;refine R ?_;refine AK (LQ ((Ah F (V t 1)).ex (DG ((Ah F (V t 0)).ex S).1 6 (V t 0).m ((Ah F (V t 0)).ex S).2)).1 _ _ 1 (V t 1).m h) ?_;rintro _ _ ⟨rfl,h,ga⟩;refine AY fun g E=>?_;have ac:=DP ac;have al:=DP al;refine R ?_;have ai:Dl [b3,b4,b5,cz,dk] w.heap.size _ [((Ah F (V t 0)).ex S).1] (.slice (some ⟨bc,0,none⟩) 1 1):=M1 E.Q ap (ac.mono fun k hk _=>⟨⟨⟨by have:=hk.1.1;omega,by have:=hk.1.2;simp at this ⊢;omega⟩,hk.2⟩,by have:=hk.1.2;simp at this;omega⟩) ⟨⟨ap,by simp;omega⟩,DK E.Q⟩;refine Ch fun _ _ ga _ g E=>?_;have al:=Bp al;have h:=Ar h;have ai:=Ar ai;have b9:=E.W 0 2 rfl rfl rfl;have hOo:=ai
 refine Hq U AB Ck U (H U) ai (H U) U E.E.row (Fq al cy D2 (fun j hj=>by obtain rfl:bc=j:=(by injection hj);simp)) BI Dj ⟨by have:=g.size;omega,by have q3:=E.g6.lt;have q4:=E.g5.lt;have q5:=E.g4.lt;have ft:=E.g3.lt;have fu:=E.Q.lt;simp;omega⟩ ?_;intro ec e9 d6 ai az;replace E:=E.sel [false,true,false,true,true,true,true];replace E:=E.ab az hOo.W Bq;have g:=EY g az Fm;have h:=h.aa az hOo O;refine AR fun _ ga Ca g E h=>?_;have ai:=DO ai;refine AR fun _ ga Ca g E h=>?_;have ai:=DO ai;refine AC ?_
 have e:DH F t (Ax F t) S=(AJ t [((Ah F (V t 0)).ex S).1,((Ah F (V t 1)).ex (DG ((Ah F (V t 0)).ex S).1 6 (V t 0).m ((Ah F (V t 0)).ex S).2)).1] AA,DG ((Ah F (V t 1)).ex (DG ((Ah F (V t 0)).ex S).1 6 (V t 0).m ((Ah F (V t 0)).ex S).2)).1 1 (V t 1).m ((Ah F (V t 1)).ex (DG ((Ah F (V t 0)).ex S).1 6 (V t 0).m ((Ah F (V t 0)).ex S).2)).2):=by
  unfold DH;rw [Aq h1,Aq h2,Aq h3,Aq h4,Aq h5,Aq h8,Aq aj,Aq ak];dsimp only [A0];rw [Dz (show 0<t.b.length by omega),Dz (show 1<t.b.length by omega),BW an];rfl
 rw [e];exact ⟨BR (t:=AJ t [_,_] AA) rfl ai.kd,h,g⟩;have an:t.c≠16:=CM an;refine Az (fun aq=>?_) fun aq=>?_;have aq:t.c=17:=AV aq;refine C9 [3,0,3,0,3,3,0,2] ?_;refine Db fun g E h=>?_;have aa:=aa.a (G.drew _);have ac:=ac.a (G.drew _);obtain ⟨hpe,db,d4,hcell,ad⟩:=Ba aa (i:=0) O;refine R ?_;refine AK (LQ ((Ah F (V t 0)).ex S).1 _ _ 6 (V t 0).m h) ?_;rintro _ _ ⟨rfl,h,ga⟩;refine AY fun g E=>?_;have ac:=DP ac;refine AR fun _ ga Ca g E h=>?_;have ac:=AM ac;refine AC ?_
 have e:DH F t (Ax F t) S=(AJ t [((Ah F (V t 0)).ex S).1] AA,DG ((Ah F (V t 0)).ex S).1 6 (V t 0).m ((Ah F (V t 0)).ex S).2):=by
  unfold DH;rw [Aq h1,Aq h2,Aq h3,Aq h4,Aq h5,Aq h8,Aq aj,Aq ak];dsimp only [A0];rw [Dz (show 0<t.b.length by omega),Aq an,BW aq];rfl
 rw [e];exact ⟨BR (t:=AJ t [_] AA) rfl (D9 (ks:=[_]) ⟨ap,DK E.E⟩ E.E.row (Dh (ac.Y a1)) (Bh _)),h,g⟩;have aq:t.c≠17:=CM aq;refine Az (fun aw=>?_) fun aw=>?_;have aw:t.c=21:=AV aw;refine Az (fun bp=>?_) fun bp=>?_
 have hp:(Ae (((Ah F (V t 0)).ex S).1.ty.c=1) || Ae (((Ah F (V t 0)).ex S).1.ty.c=2))=false:=by
  revert bp;cases Ae (((Ah F (V t 0)).ex S).1.ty.c=1) <;> cases Ae (((Ah F (V t 0)).ex S).1.ty.c=2) <;> decide
 obtain ⟨hpe,dh,dn,hcell,ad⟩:=Ba aa (i:=0) O;refine R ?_;refine AK (F5 (V t 0).m 7 h) ?_;rintro _ _ ⟨rfl,h,ga⟩;refine AY fun g E=>?_;have ac:=DP ac;refine AR fun _ ga Ca g E h=>?_;have ac:=AM ac;refine AC ?_
 have e:DH F t (Ax F t) S=(AJ t [((Ah F (V t 0)).ex S).1] AA,AH (Ae (((Ah F (V t 0)).ex S).1.ty.c=1) || Ae (((Ah F (V t 0)).ex S).1.ty.c=2)) (V t 0).m 7 ((Ah F (V t 0)).ex S).2):=by
  unfold DH;rw [Aq h1,Aq h2,Aq h3,Aq h4,Aq h5,Aq h8,Aq aj,Aq ak];dsimp only [A0];rw [Dz (show 0<t.b.length by omega),Aq an,Aq aq,BW aw];rfl
 rw [e,hp];exact ⟨BR (t:=AJ t [_] AA) rfl (D9 (ks:=[_]) ⟨ap,DK E.E⟩ E.E.row (Dh (ac.Y a1)) (Bh _)),h,g⟩
 have hp:(Ae (((Ah F (V t 0)).ex S).1.ty.c=1) || Ae (((Ah F (V t 0)).ex S).1.ty.c=2))=true:=by
  revert bp;cases Ae (((Ah F (V t 0)).ex S).1.ty.c=1) <;> cases Ae (((Ah F (V t 0)).ex S).1.ty.c=2) <;> decide
 refine AR fun _ ga Ca g E h=>?_;have ac:=AM ac;refine AC ?_
 have e:DH F t (Ax F t) S=(AJ t [((Ah F (V t 0)).ex S).1] AA,AH (Ae (((Ah F (V t 0)).ex S).1.ty.c=1) || Ae (((Ah F (V t 0)).ex S).1.ty.c=2)) (V t 0).m 7 ((Ah F (V t 0)).ex S).2):=by
  unfold DH;rw [Aq h1,Aq h2,Aq h3,Aq h4,Aq h5,Aq h8,Aq aj,Aq ak];dsimp only [A0];rw [Dz (show 0<t.b.length by omega),Aq an,Aq aq,BW aw];rfl
 rw [e,hp];exact ⟨BR (t:=AJ t [_] AA) rfl (D9 (ks:=[_]) ⟨ap,DK E.E⟩ E.E.row (Dh (ac.Y a1)) (Bh _)),h,g⟩;have aw:t.c≠21:=CM aw;refine AR fun _ ga Ca g E h=>?_;have ac:=AM ac;refine AC ?_
 have e:DH F t (Ax F t) S=(AJ t [((Ah F (V t 0)).ex S).1] AA,((Ah F (V t 0)).ex S).2):=by
  unfold DH;rw [Aq h1,Aq h2,Aq h3,Aq h4,Aq h5,Aq h8,Aq aj,Aq ak];dsimp only [A0];rw [Dz (show 0<t.b.length by omega),Aq an,Aq aq,Aq aw];rfl
 rw [e];exact ⟨BR (t:=AJ t [_] AA) rfl (D9 (ks:=[_]) ⟨ap,DK E.E⟩ E.E.row (Dh (ac.Y a1)) (Bh _)),h,g⟩
end Go.Rk
