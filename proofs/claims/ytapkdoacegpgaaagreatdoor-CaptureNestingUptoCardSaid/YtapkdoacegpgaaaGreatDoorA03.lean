/- Merged texts of one road: Fn, RefA, RefB, SynA, RefC, SynB, Gt, TypF, TypG, TypD, TypE, SynC, SynD, SynE, SynF, SynG, SynH, Max, SynI, SynJ, Stp, CkA, CkB, Cpf, Cpa, Cpr, Cps. Conditions: each text's own. -/
import Derived.Test.YtapkdoacegpgaaaGreatDoorA01
import Derived.Test.YtapkdoacegpgaaaGreatDoorA02
set_option linter.unusedSimpArgs false
set_option linter.unusedVariables false
namespace Go.Proofs
end Go.Proofs
namespace Go.Rk
open Go.Proofs
open Go Go.RowKit
def FnV(P:Program)(q:Int→Bool)(v:Value)(w:World):Prop:=∃ f fs cs,v = .func (.func f) fs cs∧goFn P f=true∧∀ (k:Int) (w':World),G w w'→Ret P f (fs ++ #[.int .i64 k]++cs) w' fun r w''=>r = .bool (q k)∧G w' w''
theorem FnV.grow{P:Program}{q:Int→Bool}{v:Value}{w w':World}(h:FnV P q v w)(g:G w w'):FnV P q v w':=by
 obtain ⟨f,fs,cs,rfl,h1,h2⟩:=h;exact ⟨f,fs,cs,rfl,h1,fun k w'' g'=>h2 k w'' (g.trans g')⟩
section
variable {P:Program} {Z:List PanicEntry→Act→World→Prop} {ops:List Oper} {cl:List Nat} {lv:List Bool} {W0:World} {n:Nat} {K:Act→World→Prop} {k:Nat} {rest:List Oper} {σ:List Ent} {w:World} {d:Nat} {ty:TypeId} {pos:String} {after:Array Edge}
theorem Vqg{g t:Nat}{want b:Bool}{c0:Prop}{op:Op}{v:Value}{w':World}(hb:(!Nat.beq (clOf cl k) 0 && !Nat.beq (clOf cl k) 3&&Nat.blt d n)=true)
 (hgd:((ops.toArray[g]?).bind (·.dst))=some t) (hlk:look σ t=some (c0,.bool b)) (hr:RunV P n σ (c0∧b=want) w op ty v w') (hg:G w w')
 (h:(c0∧b=want)→SR P Z ops cl lv W0 n K (k+1) rest ((d,c0∧b=want,v) :: σ) w') (h':¬ (c0∧b=want)→SR P Z ops cl lv W0 n K (k+1) rest ((d,c0∧b=want,v) :: σ) w) :
 SR P Z ops cl lv W0 n K k (⟨some d,op,ty,pos,after,some (g,want)⟩::rest) σ w:=.mk fun hl a ha=>by
 obtain ⟨h0,h1⟩:=Yja hl;simp only [Bool.and_eq_true,Bool.not_eq_true'] at hb;rw [List.length_cons,List.range'_succ];have hw:=Wib (op:=op) (ty:=ty) (pos:=pos) (after:=after) (want:=want) (d:=some d) hgd hlk ha;refine ⟨_,h0,?_⟩;rw [if_neg (fun he=>by rcases he with he|he <;> rw [he] at hb <;> simp at hb)]
 by_cases hh:c0∧b=want;rw [if_pos (hw.2 hh)];exact .inl ⟨v,w',hr _ _ _ _ a ha hh,fun _=>hg,h hh h1 _ (ha.put hb.2 (fun _=>rfl) (fun hn=>absurd hh hn))⟩;rw [if_neg (fun hq=>hh (hw.1 hq))];exact h' hh h1 _ (ha.put hb.2 (fun hq=>absurd hq hh) (fun _=>rfl))
theorem Wjd{g t0:Nat}{want bb:Bool}{c0:Prop}{t e z by_ m:Nat}{ps:Array (Nat×Operand)}{vs:List (Nat×Value)}{zv:Value}(l:List Value)(hb:(!Nat.beq (clOf cl k) 0 && !Nat.beq (clOf cl k) 3&&Nat.blt d n)=true)(hgd:((ops.toArray[g]?).bind (·.dst))=some t0)(hlk:look σ t0=some (c0,.bool bb))
 (ht:tyElem P t=some (e,z,by_)) (hz:zeroOf P e=some zv)
 (hx:Uxa n σ (c0∧bb=want) ps vs) (hm:(Nat.ble (m*z) 16777216 && !Nat.beq (m*z) 0&&Nat.beq vs.length m)=true) (hf:Qed z 0 vs=some l)
 (h:∀ b w1,G w w1→(c0∧bb=want→Blk w1 b e l)→SR P Z ops cl lv W0 n K (k+1) rest ((d,c0∧bb=want,.slice (some ⟨b,0,none⟩) m m) :: σ) w1) :
 SR P Z ops cl lv W0 n K k (⟨some d,.buildSlice t m ps,ty,pos,after,some (g,want)⟩::rest) σ w:=by
 obtain ⟨hu,i,hi,hsz,_⟩:=Qx ht;obtain ⟨i',hi',hz'⟩:=Uoa hz;obtain rfl:i=i':=Option.some.inj (hi.symm.trans hi');simp only [Bool.and_eq_true,Bool.not_eq_true'] at hm;have hm1:¬ (m*z>2 ^ 24):=by have:=Nat.le_of_ble_eq_true hm.1.1;omega
 have hm2:¬ (m*z=0):=by intro he;rw [he] at hm;simp at hm
 have hvl:=Nat.eq_of_beq_eq_true hm.2
 have hfill:Instr.fill (fun i=>some (i*z,z)) ((Array.range (m*z)).map (zv.cells[· % zv.cells.size]!)) vs=some l.toArray:=by
  have h1:=Xoc z vs 0 [] ((Array.range (m*z)).map (zv.cells[· % zv.cells.size]!)).toList l hf (by simp) (by simp [hvl]) (by simp);have:=Zbc _ _ _ _ h1;rwa [Array.toArray_toList] at this
 refine Vqg hb hgd hlk (w':=w.alloc (.cells l.toArray e)) (v:=.slice (some ⟨w.heap.size,0,none⟩) m m) (fun d pos after g a ha hc=>?_) (Xea w e l).g (fun hc=>h _ _ (Xea w e l).g (fun _=>(Xea w e l).blk)) (fun hc=>h _ _ (G.refl w) (fun hq=>absurd hq hc));have hx':=hx a ha hc;simp only [execOp,Instr.buildSlice,Sem.run_bind,run_underlying hu,Result.andThen_ok,sizeOf,typeInfo,run_program,hi,Sem.run_pure,hsz,if_neg hm1,if_neg hm2,zeroValue,hz'];rw [hx',hfill];simp [newRow]
end
section
variable {P:Program} {n:Nat} {σ:List Ent} {c:Prop} {wb:World} {ty:TypeId} {v:Value}
end
theorem Qad{l:List Nd}{i:Nat}(f:Nd→Nat)(h:i<l.length):((l.take (i+1)).map f).sum=((l.take i).map f).sum+f l[i]:=by
 rw [Xhc f l i h,List.sum_append];simp
theorem Vcf:∀ (t:Nd) (v:Value) (D:Nat→Prop) (w:World),Kd w D t.kids v→count t≤4611686018427387904→Ret PP Jyd #[ndV t v] w fun r w'=>r = .int .i64 (count t:Nat)∧G w w':=by
 refine Nd.ind fun t ih v D w hk hc=>?_;obtain ⟨p,c,rfl,hcap,hks⟩:=hk;have g:=G.refl w;have hlen:=Wz t;refine WK 21 [0] Xed ?_;refine BM fun _ w1 _ _ g E=>?_;refine AU ?_;refine Jn (fun (i:Nat) u1=>(i≤t.kids.length)∧G w1 u1) [(1,True,_),(2,True,_)] (fun (i:Nat)=>[(3,True,.int .i64 ((1+((t.kids.take i).map count).sum:Nat):Int)),(4,True,.int .i64 i)]) (fun (i:Nat)=>t.kids.length-i) (0) ⟨by simp,G.refl _⟩ (Za O (Za O (Za O (Za O (Zo _))))) ?_;rintro i u1 ⟨hI1,gl1⟩;have g:=g.trans gl1;replace E:=E.grow gl1;refine Zi (Zi (Zk (Zp O (Yf Zg O (Yp Zf O (E.g0.at_ O) (Xha Zc O (Xna O O (Ze (kq (Wn O (fun h1=>?_) (fun h1=>?_)))))))))));replace h1:i<t.kids.length:=by simp only [decide_eq_true_eq] at h1;omega
 obtain ⟨b,o,rfl,hD,xs,hR,hX⟩:=hks (by omega);obtain ⟨p',c',hcell,hkid⟩:=Zgb hR hX h1;have hck:=Zfa h1;refine Yb (kq (Zi (Yo (Zk (Zp O (Yf Zg O (Yp Zf O (E.g0.at_ O) (Zp O (Qpa Zc O O (by omega) (Ve Zh O O (hcell.grow g) (Vg O (Yi Jzd Vc (aqc O aq0) O) (ih _ (List.getElem_mem h1) _ _ _ (hkid.grow g) (by omega)) (fun w18 g18=>?_))))))))))));have gl1:=gl1.trans (g18);replace E:=E.grow g18;refine AU ?_;refine SK [3,4,1,2] ?_;refine Ze (fun a ha=>?_);have e:((1+((t.kids.take i).map count).sum:Nat):Int)+(count t.kids[i]:Nat)=((1+((t.kids.take (i+1)).map count).sum:Nat):Int):=by rw [Qad count h1];omega
 rw [e] at ha;exact ⟨i+1,ha,⟨h1,gl1⟩,by omega⟩;replace h1:i=t.kids.length:=by simp only [decide_eq_false_iff_not] at h1;omega
 refine RTN ?_;refine ⟨?_,g⟩;rw [h1,List.take_length,← Uw]
theorem Jh{α:Type}{l:List α}{i:Nat}(h:i<l.length):l.take (i+1)=l.take i++[l[i]]:=by
 rw [List.take_add_one,List.getElem?_eq_getElem h];rfl
def RetNd(t:Nd)(base:Nat)(r:Value)(w:World):Prop:=∃ p c,r=ndV t (.slice p t.kids.length c)∧Kd w (fun b=>base≤b) t.kids (.slice p t.kids.length c)
theorem Wkd:∀ (t:Nd) (v:Value) (D:Nat→Prop) (w:World),Kd w D t.kids v→t.kids.length≤1000000→count t≤1000000→Ret PP Xye #[ndV t v] w fun r w'=>RetNd t w.heap.size r w'∧G w w':=by
 refine Nd.ind fun t ih v D w hk hlen hc=>?_;obtain ⟨p,c,rfl,hcap,hks⟩:=hk;have g:=G.refl w;refine Zca (m:=25) Vvd O O [(0,True,_)] (Za O (Zo _)) ?_;refine Zi (Zk (Wya O (Zd O) O ?_));intro b1 w1 N1;have l1:=N1.ge g;have g:=g.trans N1.g;have E:=(Xia _).new N1;refine Jm O Zt O ?_;intro b2 w2 N2;have l2:=N2.ge g;have g:=g.trans N2.g;replace E:=E.new N2;refine Ze (kq (Zi (Zk (Yf Zg O (Yp Zf O (E.g1.at_ O) (Yr O (Ze (kq (Zi (Zk (Yf Zg O (Xpc Xpa O O O E.g1 ?_))))))))))));intro wS1 hgS1 _ BS;replace E:=E.s1 hgS1 BS;have g:=Ya g hgS1 (by omega);refine Ze (kq (Zi (Zi (Zk (Yr O (Ze (kq (Yo (?_)))))))));have hnd1:=E.1;refine Xo (fun (i:Nat) u1=>(i≤t.kids.length∧∃ s,Blk u1 b1 Ys (ndCells t s)∧OwnK Ys (Dx w.heap.size [b1,b2]) w.heap.size u1 (t.kids.take i) s)∧G w u1) _ [(1,True,_),(2,True,_),(3,True,_)] (fun (i:Nat)=>[(4,True,.int .i64 i)]) (fun (i:Nat)=>t.kids.length-i) (0) ⟨⟨Nat.zero_le _,_,E.g1,Xub _ _ _ _⟩,g⟩ (Zs (blkE E.g0) (Zz _)) (Za O (Za O (Za O (Za O (Zo _))))) ?_;clear E;rintro i u1 ⟨hI1,gl1⟩ ⟨B2,_⟩;replace B2:Blk _ _ _ _:=B2;have g:=gl1;obtain ⟨hi,s,B1,hO⟩:=hI1;obtain ⟨sa,sc,rfl⟩:=hO.slice;have E:=Jo (L:=[(b2,_,_),(b1,_,_)]) hnd1 ⟨B2,B1,trivial⟩ rfl;refine Zi (Zi (Zk (Zp O (Zp O (Xha Zc O (Xna O O (Ze (kq (Wn O (fun h1=>?_) (fun h1=>?_))))))))));replace h1:i<t.kids.length:=by simp only [decide_eq_true_eq] at h1;omega
 obtain ⟨b,o,rfl,hD,xs,hR,hX⟩:=hks (by omega);obtain ⟨p',c',hcell,hkid⟩:=Zgb hR hX h1;have hck:=Zfa h1;have hkl:=Wz t.kids[i];have hu:=g.size;refine Yb (kq (Zi (Yo (Yx [3,0,3,3,3,0,1,1,2,3,2] [true,true,true,true,true,true,true,true,true,true,true] [0,1,0,0,12,28,60,124,255,511,1023] mix (by kernel_rfl) ?_))));have g:=gdr g;replace E:=E.dr;have hO:=hO.grow (G.drew _);have hB1lt:=E.g1.lt;have hB2lt:=E.g0.lt;have hOlt:=hO.lt;refine Yf Zg O (Yp Zf O (E.g1.at_ O) (Zp O (Zp O (Qpa Zc O O (by omega) (Ve Zh O O (hcell.grow g) (Yga O (Yi Xze Vc (aqc O aq0) O) (ih _ (List.getElem_mem h1) _ _ _ (hkid.grow g) (by omega) (by omega)) ?_))))));rintro v20 w20 ⟨⟨p2,c2,rfl,hk2⟩,g20⟩;refine ⟨fun _=>g20,?_⟩;have g:=g.trans g20;replace E:=E.grow g20;have hO:=hO.grow (g20);refine Wp _ O Zc Zt (pqc O pq0) O O ?_;intro b21 w21 N21;have l21:=N21.ge g;have g:=g.trans N21.g;have hO:=hO.grow (N21.g);replace E:=E.new N21;have hk2:=hk2.grow N21.g;have hOo:=hO;refine Vda O Zc Zt O (Zd O) hO (Zd O) O E.g0.row (Yc (hk2.mono fun k hk _=>⟨⟨by have:u1.heap.size≤k:=hk;omega,by have:u1.heap.size≤k:=hk;have:=hB1lt;have:=hB2lt;simp;omega⟩,fun he=>by have:=hOlt k he.symm;have:u1.heap.size≤k:=hk;omega⟩)) (by simp;omega) (by have:=g.size;omega) ⟨by have:=g.size;omega,by have q1:=E.g2.lt;have q2:=E.g1.lt;simp;omega⟩ ?_;intro a22 c22 w22 hO hg22;replace E:=E.sel [false,true,true];replace E:=E.keep hg22 (List.forall_mem_cons.2 ⟨(hOo.ne (by simp [Dx])),List.forall_mem_cons.2 ⟨(hOo.ne (by simp [Dx])),List.forall_mem_nil _⟩⟩);have g:=Qc g hg22 (fun k hk=>hOo.ge k hk);refine Yf Zg O (Xpc Xpa O O O E.g1 ?_);intro wS2 hgS2 _ BS;replace E:=E.s1 hgS2 BS
 have g:=Ya g hgS2 (by omega);have hO:=hO.keep hgS2 (by simp [Dx]);refine Ze (kq (Zk (Zp O (Jta O O (by omega) (Yr O (Vf [(4,_,_),(1,_,_),(2,_,_),(3,_,_)] (Za O (Za O (Za O (Za O (Zo _))))) (Ze (fun a ha=>?_))))))));exact ⟨i+1,ha,⟨⟨h1,_,E.g1,by rw [Jh h1];exact hO⟩,g⟩,(Zs (blkE E.g0) (Zz _)),by omega⟩;replace h1:i=t.kids.length:=by simp only [decide_eq_false_iff_not] at h1;omega
 subst h1;rw [List.take_length] at hO E;refine Jl O (kq (Zi (Zk (Ve Zh O O E.g1.row (Ygb Qr O O O E.g0 ?_)))));intro wS3 hgS3 _ BS;replace E:=E.s0 hgS3 BS;have g:=Ya g hgS3 (by omega);have hO:=hO.keep hgS3 (by simp [Dx]);refine Ze (kq (Xe (Ydd O (Qy O Zh O (E.g0.row) (Wy)) ?_)));exact ⟨⟨_,_,rfl,hO.kd fun b hb=>hb.1⟩,g⟩
def listN(t:Nd):List Nd:=para (fun t l=>t::l.flatten) t
theorem Xua(t:Nd):listN t=t::t.kids.flatMap listN:=by rw [listN,Yaa,List.flatMap_def];rfl
theorem Jia:∀ t,(listN t).length=count t:=by
 refine Nd.ind fun t ih=>?_;rw [Xua,Uw,List.length_cons,List.length_flatMap,Nat.add_comm];congr 2;exact List.map_congr_left ih
theorem Vdf:∀ (t:Nd) (x:Nd),x∈listN t→count x≤count t:=by
 refine Nd.ind fun t ih x hx=>?_;rw [Xua] at hx;rcases List.mem_cons.1 hx with rfl|hx;exact Nat.le_refl _;obtain ⟨k,hk,hx⟩:=List.mem_flatMap.1 hx;have:=ih k hk x hx;have:=Jp hk;omega
theorem Vrc{l:List Nd}{i:Nat}(h:i<l.length):(l.take (i+1)).flatMap listN=(l.take i).flatMap listN++listN l[i]:=by rw [Jh h,List.flatMap_append];simp only [List.flatMap_cons,List.flatMap_nil,List.append_nil]
theorem Qmc(l:List Nd)(i:Nat):((l.take i).flatMap listN).length=((l.take i).map count).sum:=by
 rw [List.length_flatMap];congr 1;exact List.map_congr_left fun k _=>Jia k
theorem Jtf:∀ (t:Nd) (v:Value) (D:Nat→Prop) (w:World),Kd w D t.kids v→count t≤1000000→Ret PP Whe #[ndV t v] w fun r w'=>Kd w' (fun b=>D b∨w.heap.size≤b) (listN t) r∧G w w':=by
 refine Nd.ind fun t ih v D w hk hc=>?_;obtain ⟨p,c,rfl,hcap,hks⟩:=hk;have hlen:=Wz t;have hk0:Kd w (fun b=>D b∧b<w.heap.size) t.kids (.slice p t.kids.length c):=Kd.lt ⟨p,c,rfl,hcap,hks⟩;have g:=G.refl w;refine Zca (m:=23) Ufd O O [(0,True,_)] (Za O (Zo _)) ?_;refine Zi (Zk (Wya O (Zd O) O ?_));intro b1 w1 N1;have l1:=N1.ge g;have g:=g.trans N1.g;have E:=(Xia _).new N1;refine Yr O (Ze (kq (Zi (Zk (Ve Zh O O E.g0.row (Wp _ O Zc Zt (pqc O pq0) O O ?_))))));intro b6 w6 N6;have l6:=N6.ge g;have g:=g.trans N6.g;replace E:=E.new N6;have x6_1:=E.ne 0 1 rfl rfl rfl;have hO:OwnK Ys (fun b=>(D b∧b<w.heap.size)∨Dx w.heap.size [b1] b) w.heap.size w6 [t] (.slice (some ⟨b6,0,none⟩) 1 1):=Jc E.g0 l6 ((hk0.grow g).mono fun k hk _=>⟨.inl hk,by omega⟩) (.inr ⟨l6,by simp;omega⟩);refine Yr O (Ze (kq (Zi (Zi (Zk (Yr O (Ze (kq (Yo (?_))))))))));replace E:=E.sel [false,true];have hnd1:=E.1;refine Xo (fun (x:Nat×Option Addr×Nat) u1=>match x with|⟨i,a,ca⟩=>(i≤t.kids.length∧OwnK Ys (fun b=>(D b∧b<w.heap.size)∨Dx w.heap.size [b1] b) w.heap.size u1 (t::(t.kids.take i).flatMap listN) (.slice a (t::(t.kids.take i).flatMap listN).length ca))∧G w u1) _ [(1,True,_),(2,True,_)] (fun (x:Nat×Option Addr×Nat)=>match x with|⟨i,a,ca⟩=>[(3,True,.slice a (t::(t.kids.take i).flatMap listN).length ca),(4,True,.int .i64 i)]) (fun (x:Nat×Option Addr×Nat)=>match x with|⟨i,a,ca⟩=>t.kids.length-i) ((0,some ⟨b6,0,none⟩,1)) ⟨⟨Nat.zero_le _,hO⟩,g⟩ (Zs (blkE E.g0) (Zz _)) (Za O (Za O (Za O (Za O (Zo _))))) ?_;clear E;rintro ⟨i,a,ca⟩ u1 ⟨hI1,gl1⟩ ⟨B1,_⟩;replace B1:Blk _ _ _ _:=B1;have g:=gl1;obtain ⟨hi,hO⟩:=hI1
 have E:=Jo (L:=[(b1,_,_)]) hnd1 ⟨B1,trivial⟩ rfl;refine Zi (Zi (Zk (Zp O (Yf Zg O (Yp Zf O (E.g0.at_ O) (Xha Zc O (Xna O O (Ze (kq (Wn O (fun h1=>?_) (fun h1=>?_)))))))))));replace h1:i<t.kids.length:=by simp only [decide_eq_true_eq] at h1;omega
 obtain ⟨b,o,rfl,hD,xs,hR,hX⟩:=hks (by omega);obtain ⟨p',c',hcell,hkid⟩:=Zgb hR hX h1;have hck:=Zfa h1;have hcl:=Qmc t.kids i;have hu:=g.size;have hB1lt:=E.g0.lt;have hOlt:=hO.lt;refine Yb (kq (Zi (Yo (Zk (Zp O (Yf Zg O (Yp Zf O (E.g0.at_ O) (Zp O (Qpa Zc O O (by omega) (Ve Zh O O (hcell.grow g) (Yga O (Yi Wie Vc (aqc O aq0) O) (ih _ (List.getElem_mem h1) _ (fun b=>D b∧b<w.heap.size) _ (hkid.old g) (by omega)) ?_)))))))))));rintro v20 w20 ⟨⟨p2,c2,rfl,hc2,hr2⟩,g20⟩;refine ⟨fun _=>g20,?_⟩;have g:=g.trans g20;have hln:=Jia t.kids[i];have hpos:=Uo t.kids[i];obtain ⟨b2,o2,rfl,hD2,ys,hR2,hX2⟩:=hr2 (by omega);replace E:=E.grow g20;have hO:=hO.grow (g20);have hOo:=hO;refine Vda O Zc Zt O (Zd O) hO (Zd O) O hR2 (hX2.mono fun k hk _=>⟨hk.elim .inl fun h=>.inr ⟨by have h:u1.heap.size≤k:=h;omega,by have h:u1.heap.size≤k:=h;simp;omega⟩,fun he=>by have:=hOlt k he.symm;have hge:=hO.ge k he.symm;rcases hk with ⟨_,h⟩|h <;> omega⟩) (by rw [List.length_cons];omega) (by have:=g.size;omega) (.inr ⟨by have:=g.size;omega,by have:=E.g0.lt;simp;omega⟩) ?_
 intro a21 c21 w21 hO hg21;replace E:=E.keep hg21 (List.forall_mem_cons.2 ⟨(hOo.ne (by rintro (h|h);exact absurd h.2 (by omega);simp [Dx] at h)),List.forall_mem_nil _⟩);have g:=Qc g hg21 (fun k hk=>hOo.ge k hk);refine Yr O (Ze (kq (Zk (Zp O (Jta O O (by omega) (Yr O (Vf [(3,_,_),(4,_,_),(1,_,_),(2,_,_)] (Za O (Za O (Za O (Za O (Zo _))))) (Ze (fun a ha=>?_)))))))));rw [show t::(t.kids.take i).flatMap listN++listN t.kids[i]=t::(t.kids.take (i+1)).flatMap listN by rw [Vrc h1];rfl] at ha hO;exact ⟨(i+1,a21,c21),ha,⟨⟨h1,hO⟩,g⟩,(Zs (blkE E.g0) (Zz _)),by show t.kids.length-(i+1)<t.kids.length-i;omega⟩;replace h1:i=t.kids.length:=by simp only [decide_eq_false_iff_not] at h1;omega
 subst h1;rw [List.take_length,← Xua] at hO;refine Jl O (kq (Zi (Zk (Zp O (Yr O (Ze (kq (Xe (Up O O ?_)))))))));refine ⟨?_,g⟩;rw [List.take_length,← Xua];exact hO.kd fun b hb=>hb.elim (fun h=>.inl h.1) (fun h=>.inr h.1)
def typK(k:Int):Bool:=anyK [7,8] k
def expK(k:Int):Bool:=anyK [28,29,30,31,32,33,35,36,37,27,34,24,25,26,38] k
def stK(k:Int):Bool:=anyK [6,10,11,12,13,14,15,16,17,21,18,19,20,22] k
def memK(l:List Int)(k:Int):Bool:=decide (k∈l)
def typeNames:List (List UInt8):=[[105,110,116],[98,111,111,108],[91,93,105,110,116],[99,104,97,110],[102,117,110,99],[109,117,116,101,120],[114,119,109,117,116,101,120],[103,114,111,117,112],[111,110,99,101],[97,116,111,109,105,99]]
def typeNameB(s:List UInt8):Bool:=anyS typeNames s
theorem Vge(s:List UInt8)(w:World):Ret PP Jtc #[Str s] w fun v w'=>v = .bool (typeNameB s)∧G w w':=by
 have g:=G.refl w;refine WK 15 [0] Vbc ?_;refine AU ?_;refine' OR [2] (fun hb1=>?y1) (kq ?n1)
 case y1 =>
  refine AU ?_;refine' OR [2] (fun hb2=>?y2) knr
  case y2 =>
   refine AU ?_;refine' OR [2] (fun hb3=>?y3) knr
   case y3 =>
    refine AU ?_;refine' OR [2] (fun hb4=>?y4) knr
    case y4 =>
     refine AU ?_;refine' OR [2] (fun hb5=>?y5) knr
     case y5 =>
      refine AU ?_;refine' OR [2] (fun hb6=>?y6) knr
      case y6 =>
       refine AU ?_;refine' OR [2] (fun hb7=>?y7) knr
       case y7 =>
        refine AU ?_;refine' OR [2] (fun hb8=>?y8) knr
        case y8 =>
         refine AU ?_;refine' OR [2] (fun hb9=>?y9) knr
         case y9 =>
          refine AU ?_;refine SK [4,2] ?_;exact Ze knr
 case n1 =>
  refine IF (fun h10=>?_) fun h10=>?_;(try simp only [bsimp] at h10);refine RTN ?_;refine ⟨Wfh ?_,g⟩;simp only [typeNameB,anyS,typeNames];exact (h10).symm;refine RTN ?_;refine ⟨Wfh ?_,g⟩;simp only [typeNameB,anyS,typeNames];exact (h10).symm
def leafB(t:Nd):Bool:=decide ((t.kids.length:Int)=0)
def isTypeB(t:Nd):Bool:=bif decide (t.kind=8) then nameB t.text&&leafB t else bif decide (t.kind=7) then typeNameB t.text&&leafB t else false
theorem Zic(t:Nd)(p:Option Addr)(c:Nat)(w:World):Ret PP Uhd #[ndV t (.slice p t.kids.length c)] w fun v w'=>v = .bool (isTypeB t)∧G w w':=by
 have g:=G.refl w;refine WK 27 [0] Jrc ?_;refine BM fun _ _ _ _ g E=>?_;refine IF (fun h1=>?_) fun h1=>?_;(try simp only [bsimp] at h1);refine AU ?_;refine CP (Vya _ _) (fun w9 g9=>?_);have g:=g.trans g9;replace E:=E.grow g9;refine RTN ?_;refine ⟨Wfh ?_,g⟩;unfold isTypeB;simp only [h1,cond_true,cond_false] <;> rfl
 refine IF (fun h2=>?_) fun h2=>?_;(try simp only [bsimp] at h2);refine AU ?_;refine CP (Vge _ _) (fun w20 g20=>?_);have g:=g.trans g20;replace E:=E.grow g20;refine RTN ?_;refine ⟨Wfh ?_,g⟩;unfold isTypeB;simp only [h1,h2,cond_true,cond_false] <;> rfl
 refine RTN ?_;refine ⟨Wfh ?_,g⟩;unfold isTypeB;simp only [h1,h2,cond_true,cond_false] <;> rfl
def binOps:List (List UInt8):=[[124,124],[38,38],[61,61],[33,61],[60],[60,61],[62],[62,61],[43],[45],[42],[47],[37]]
theorem Juf(s:List UInt8)(w:World):Ret PP Zbd #[Str s] w fun v w'=>v = .bool (anyS binOps s)∧G w w':=by
 have g:=G.refl w;refine WK 18 [0] Vfc ?_;refine AU ?_;refine' OR [2] (fun hb1=>?y1) (kq ?n1)
 case y1 =>
  refine AU ?_;refine' OR [2] (fun hb2=>?y2) knr
  case y2 =>
   refine AU ?_;refine' OR [2] (fun hb3=>?y3) knr
   case y3 =>
    refine AU ?_;refine' OR [2] (fun hb4=>?y4) knr
    case y4 =>
     refine AU ?_;refine' OR [2] (fun hb5=>?y5) knr
     case y5 =>
      refine AU ?_;refine' OR [2] (fun hb6=>?y6) knr
      case y6 =>
       refine AU ?_;refine' OR [2] (fun hb7=>?y7) knr
       case y7 =>
        refine AU ?_;refine' OR [2] (fun hb8=>?y8) knr
        case y8 =>
         refine AU ?_;refine' OR [2] (fun hb9=>?y9) knr
         case y9 =>
          refine AU ?_;refine' OR [2] (fun hb10=>?y10) knr
          case y10 =>
           refine AU ?_;refine' OR [2] (fun hb11=>?y11) knr
           case y11 =>
            refine AU ?_;refine' OR [2] (fun hb12=>?y12) knr
            case y12 =>
             refine AU ?_;refine SK [4,2] ?_;exact Ze knr
 case n1 =>
  refine IF (fun h13=>?_) fun h13=>?_;(try simp only [bsimp] at h13);refine RTN ?_;refine ⟨Wfh ?_,g⟩;simp only [anyS,binOps];exact (h13).symm;refine RTN ?_;refine ⟨Wfh ?_,g⟩;simp only [anyS,binOps];exact (h13).symm
def Zb(t:Nd)(i:Nat):Nd:=t.kids.getD i nd0
theorem Wc{t:Nd}{i:Nat}(h:i<t.kids.length):Zb t i=t.kids[i]:=by simp [Zb,List.getD_eq_getElem?_getD,List.getElem?_eq_getElem h]
def kidsB(t:Nd)(qs:List (Int→Bool)):Bool:=decide (t.kids.length=qs.length)&&(List.range qs.length).all fun i=>(qs.getD i (fun _=>false)) (Zb t i).kind
def everyB(t:Nd)(q:Int→Bool):Bool:=t.kids.all fun k=>q k.kind
def Qsd(t:Nd):Bool:=bif anyK [9,16] t.kind then true
 else bif anyK [13,11] t.kind then decide (((t.kids.length:Int)-1)=0)&&decide ((Zb t 0).kind=33)
 else bif decide (t.kind=12) then decide (((t.kids.length:Int)-1)=1)&&decide ((Zb t 1).kind=33) else false
theorem Yl{w:World}{D:Nat→Prop}{t:Nd}{p:Option Addr}{c:Nat}(hk:Kd w D t.kids (.slice p t.kids.length c)){i:Nat}(h:i<t.kids.length):p=some ⟨pb p,po p,none⟩∧∃ p' c',RowAt w (pb p) (po p+i*9) (ndCells (Zb t i) (.slice p' (Zb t i).kids.length c'))∧Kd w D (Zb t i).kids (.slice p' (Zb t i).kids.length c'):=by
 obtain ⟨p',c',hpe,_,hks⟩:=hk;injection hpe with hpe _ hce;subst hpe hce;obtain ⟨b2,o2,rfl,hD,xs,hR2,hX⟩:=hks (by omega);refine ⟨rfl,?_⟩;rw [Wc h];exact Zgb hR2 hX h
def textB'(t:Nd):Bool:=bif anyK [2,3,4,6,11,28,27,34,8] t.kind then nameB t.text
 else bif decide (t.kind=31) then decide (t.text=[45]) || decide (t.text=[33])
 else bif decide (t.kind=32) then anyS binOps t.text
 else bif decide (t.kind=7) then typeNameB t.text
 else decide (t.text=[])
def TyR(M:Nat→Bool)(w:World)(k:Nat):Prop:=∃ cs e fr,w.heap[k]? = some (.cells cs e fr)∧M e=true
structure GT (M:Nat→Bool) (n0:Nat) (w w':World):Prop where
  os:w'.os=w.os
  tape:w'.tape=w.tape
  output:w'.output=w.output
  size:w.heap.size≤w'.heap.size
  block:∀ k,k<w.heap.size→(k<n0∨¬ TyR M w k)→w'.heap[k]? = w.heap[k]?
section
variable {M:Nat→Bool} {n0:Nat}
theorem GT.refl(M:Nat→Bool)(n0:Nat)(w:World):GT M n0 w w:=⟨rfl,rfl,rfl,Nat.le_refl _,fun _ _ _=>rfl⟩
theorem GT.trans{u v w:World}(h:GT M n0 u v)(k:GT M n0 v w):GT M n0 u w :=
 ⟨k.os.trans h.os,k.tape.trans h.tape,k.output.trans h.output,Nat.le_trans h.size k.size,fun i hi hb=>by
 have e:=h.block i hi hb;refine (k.block i (Nat.lt_of_lt_of_le hi h.size) (hb.imp id fun hb hr=>hb ?_)).trans e;obtain ⟨cs,f,fr,hr,hm⟩:=hr;exact ⟨cs,f,fr,e.symm.trans hr,hm⟩⟩
theorem GT.of_g{w w':World}(h:G w w'):GT M n0 w w':=⟨h.os,h.tape,h.output,h.size,fun k hk _=>h.block hk⟩
theorem gtd{a w:World}(g:GT M n0 a w):GT M n0 a w.drew:=g.trans (GT.of_g (G.drew _))
theorem gtg{a w w':World}(g:GT M n0 a w)(h:G w w'):GT M n0 a w':=g.trans (GT.of_g h)
theorem GT.mono{n1:Nat}{w w':World}(h:GT M n1 w w')(hn:n0≤n1):GT M n0 w w':=⟨h.os,h.tape,h.output,h.size,fun k hk hb=>h.block k hk (hb.imp (fun hb=>Nat.lt_of_lt_of_le hb hn) id)⟩
theorem GT.below{w w':World}(h:GT M n0 w w')(hn:n0≤w.heap.size):Go.RowKit.Below n0 w w':=⟨h.os,h.tape,h.output,h.size,fun k hk=>h.block k (by omega) (.inl hk)⟩
theorem Zyd{w0 w w':World}(g:G w0 w)(h:GT M n0 w w')(hn:w0.heap.size≤n0):G w0 w' :=
 ⟨h.os.trans g.os,h.tape.trans g.tape,h.output.trans g.output,Nat.le_trans g.size h.size,fun k hk=>(h.block k (Nat.lt_of_lt_of_le hk g.size) (.inl (by omega))).trans (g.block hk)⟩
theorem Ww{w0 w w':World}{row:Option Nat}(h:GT M n0 w0 w)(hg:w.grownBy w' row)(hr:∀ k,row=some k→w0.heap.size≤k):GT M n0 w0 w' :=
 ⟨hg.os.trans h.os,hg.tape.trans h.tape,hg.output.trans h.output,Nat.le_trans h.size hg.size,fun k hk hb=>(hg.block k (Nat.lt_of_lt_of_le hk h.size) (fun e=>by have:=hr k e.symm;omega)).trans (h.block k hk hb)⟩
theorem Wm{w0 w w':World}{j:Nat}(h:GT M n0 w0 w)(hg:w.grownBy w' (some j))(hj:w0.heap.size≤j):GT M n0 w0 w' :=
 Ww h hg fun k hk=>by injection hk with hk;omega
theorem Jvf{w0 w w':World}{row:Option Nat}(h:GT M n0 w0 w)(hg:w.grownBy w' row)(hr:∀ k,row=some k→n0≤k∧TyR M w k):GT M n0 w0 w' :=
 ⟨hg.os.trans h.os,hg.tape.trans h.tape,hg.output.trans h.output,Nat.le_trans h.size hg.size,fun k hk hb=>(hg.block k (Nat.lt_of_lt_of_le hk h.size) (fun e=>by
 obtain ⟨h1,h2⟩:=hr k e.symm;rcases hb with hb|hb;omega;obtain ⟨cs,f,fr,h3,h4⟩:=h2;exact hb ⟨cs,f,fr,(h.block k hk (.inr hb)).symm.trans h3,h4⟩)).trans (h.block k hk hb)⟩
theorem Ywf{w:World}{b:Nat}{e:TypeId}{l:List Value}(h:Blk w b e l)(he:M e=true):TyR M w b:=⟨_,_,_,h,he⟩
theorem Vhe{w:World}{b:Nat}{e:TypeId}{l:List Value}(h:Blk w b e l)(he:M e=false):¬ TyR M w b:=fun ⟨cs,f,fr,hr,hm⟩=>by
 unfold Blk at h;rw [h] at hr;injection hr with hr;injection hr with _ hr;subst hr;rw [he] at hm;cases hm
theorem Zjc{w:World}{e:TypeId}{z m:Nat}{v:Value}{xs:List Value}(h:w.ownsRow n0 e z v m xs)(he:M e=true):∀ k,v.ownBlock=some k→n0≤k∧TyR M w k:=fun k hk=>by
 rcases h.2 with ⟨h1,_⟩|⟨g,cap,cur,h1,h2,h3,_⟩;rw [h1] at hk;cases hk;rw [h1] at hk;have:g=k:=by injection hk
 subst this;exact ⟨h2,_,_,_,h3,he⟩
theorem Wu{w0 w w':World}{b:Nat}{e:TypeId}{l:List Value}(h:GT M n0 w0 w)(hg:w.grownBy w' (some b))(hB:Blk w b e l)(he:M e=true)(hb:n0≤b):GT M n0 w0 w' :=
 Jvf h hg fun k hk=>by injection hk with hk;subst hk;exact ⟨hb,Ywf hB he⟩
theorem Jwf{w0 w w':World}{e:TypeId}{z m:Nat}{v:Value}{xs:List Value}(h:GT M n0 w0 w)(hO:w.ownsRow n0 e z v m xs)(he:M e=true)(hg:w.grownBy w' v.ownBlock):GT M n0 w0 w' :=
 Jvf h hg (Zjc hO he)
theorem Blk.gt{j:Nat}{w w':World}{e:TypeId}{l:List Value}(h:Blk w j e l)(g:GT M n0 w w')(he:M e=false):Blk w' j e l :=
 (g.block j h.lt (.inr (Vhe h he))).trans h
theorem Obk.gt{w w':World}{L:List (Nat×TypeId×List Value)}(E:Obk w L)(g:GT M n0 w w')(ht:(L.all fun x=>!M x.2.1)=true):Obk w' L :=
 ⟨E.1,Uqa E.2 fun b e l hm h=>h.gt g (by simpa using List.all_eq_true.1 ht _ hm)⟩
theorem Kd.gt{w w':World}{D:Nat→Prop}{ks:List Nd}{v:Value}(h:Kd w D ks v)(g:GT M n0 w w')(hD:∀ k,D k→k<n0):Kd w' D ks v :=
 Zqa h (fun _ h _=>h) fun k hk hlt=>g.block k hlt (.inl (hD k hk))
theorem RowAt.gt{j o:Nat}{w w':World}{l:List Value}(h:RowAt w j o l)(g:GT M n0 w w')(hj:j<n0):RowAt w' j o l:=fun i v hi=>by
 have h1:=h i v hi;exact (World.cell?_of_block (g.block j (World.block_lt_of_cell? w _ h1) (.inl hj))).trans h1
/-! blocks of nodes -/
def NdR(w:World)(k:Nat):Prop:=∃ cs fr,w.heap[k]? = some (.cells cs Ys fr)
theorem NdR.lt{w:World}{k:Nat}(h:NdR w k):k<w.heap.size:=by
 obtain ⟨cs,fr,h⟩:=h;exact (Array.getElem?_eq_some_iff.1 h).1
theorem Xa{w:World}{b:Nat}{l:List Value}(h:Blk w b Ys l):NdR w b:=⟨_,_,h⟩
theorem NdR.same{w w':World}{k:Nat}(h:NdR w k)(e:w'.heap[k]? = w.heap[k]?):NdR w' k:=by
 obtain ⟨cs,fr,h⟩:=h;exact ⟨cs,fr,e.trans h⟩
theorem NdR.ntyr{w:World}{k:Nat}(h:NdR w k)(he:M Ys=false):¬ TyR M w k:=fun ⟨cs,f,fr,hr,hm⟩=>by
 obtain ⟨cs',fr',h⟩:=h;rw [h] at hr;injection hr with hr;injection hr with _ hr;subst hr;rw [he] at hm;cases hm
theorem NdR.gt{w w':World}{k:Nat}(h:NdR w k)(g:GT M n0 w w')(he:M Ys=false):NdR w' k:=h.same (g.block k h.lt (.inr (h.ntyr he)))
theorem NdR.grow{w w':World}{k:Nat}(h:NdR w k)(g:G w w'):NdR w' k:=h.same (g.block h.lt)
def KdN(lo:Nat)(w:World)(ks:List Nd)(v:Value):Prop:=Kd w (fun k=>lo≤k∧NdR w k) ks v
theorem KdN.gt{lo:Nat}{w w':World}{ks:List Nd}{v:Value}(h:KdN lo w ks v)(g:GT M n0 w w')(he:M Ys=false):KdN lo w' ks v :=
 Zqa h (fun k hk _=>⟨hk.1,hk.2.gt g he⟩) fun k hk hlt=>g.block k hlt (.inr (hk.2.ntyr he))
theorem KdN.grow{lo:Nat}{w w':World}{ks:List Nd}{v:Value}(h:KdN lo w ks v)(g:G w w'):KdN lo w' ks v :=
 Zqa h (fun k hk _=>⟨hk.1,hk.2.grow g⟩) fun k hk hlt=>g.block hlt
theorem KdN.keep{lo:Nat}{w w':World}{row:Option Nat}{ks:List Nd}{v:Value}(h:KdN lo w ks v)(hg:w.grownBy w' row)(hr:∀ k,row=some k→k<lo):KdN lo w' ks v :=
 Zqa h (fun k hk hlt=>⟨hk.1,hk.2.same (hg.block k hlt fun e=>by have:=hr k e.symm;omega)⟩) fun k hk hlt=>hg.block k hlt fun e=>by have:=hr k e.symm;omega
theorem KdN.low{lo lo':Nat}{w:World}{ks:List Nd}{v:Value}(h:KdN lo w ks v)(hl:lo'≤lo):KdN lo' w ks v:=Kd.mono h fun k hk _=>⟨by omega,hk.2⟩
theorem Wv(lo:Nat)(w:World):KdN lo w [] (.slice none 0 0):=Qta _ _
def RetN(t:Nd)(lo:Nat)(r:Value)(w:World):Prop:=∃ p c,r=ndV t (.slice p t.kids.length c)∧KdN lo w t.kids (.slice p t.kids.length c)
theorem Zkc(t:Nd)(lo:Nat)(w:World)(h:t.kids=[]):RetN t lo (ndV t (.slice none 0 0)) w:=⟨none,0,by rw [h];rfl,by rw [h];exact Wv _ _⟩
theorem Yxf{t:Nd}{lo:Nat}{v:Value}{w:World}(h:KdN lo w t.kids v):RetN t lo (ndV t v) w:=by
 obtain ⟨p,c,rfl,h2⟩:=h;exact ⟨p,c,rfl,p,c,rfl,h2⟩
def OwnN(X:List Nat)(lo:Nat)(w:World)(ks:List Nd)(s:Value):Prop:=OwnK Ys (fun b=>Dx lo X b∧NdR w b) lo w ks s
section
variable {X:List Nat} {lo:Nat} {w w':World} {ks:List Nd} {s:Value}
theorem Wqa(X:List Nat)(lo:Nat)(w:World):OwnN X lo w [] (.slice none 0 0):=Xub _ _ _ _
theorem OwnN.slice(h:OwnN X lo w ks s):∃ a c,s = .slice a ks.length c:=OwnK.slice h
theorem OwnN.ge(h:OwnN X lo w ks s):∀ k,s.ownBlock=some k→lo≤k:=OwnK.ge h
theorem OwnN.lt(h:OwnN X lo w ks s):∀ k,s.ownBlock=some k→k<w.heap.size:=OwnK.lt h
theorem OwnN.ne(h:OwnN X lo w ks s){b:Nat}(hb:b∈X):some b≠s.ownBlock:=OwnK.ne h fun hd=>hd.1.2 hb
theorem OwnN.nd(h:OwnN X lo w ks s):∀ k,s.ownBlock=some k→NdR w k:=fun k hk=>by
 obtain ⟨xs,_,_,h3⟩:=h;exact (h3 k hk).2
theorem Xvb{e:TypeId}{D D':Nat→Prop}{base:Nat}(h:OwnK e D base w ks s)(hD:∀ b,D b→b<w.heap.size→D' b)(hs:∀ b,D b→b<w.heap.size→w'.heap[b]? = w.heap[b]?)(ho:∀ xs,w.ownsRow base e 9 s ks.length xs→w'.ownsRow base e 9 s ks.length xs):OwnK e D' base w' ks s:=by
 obtain ⟨xs,h1,h2,h3⟩:=h;exact ⟨xs,ho xs h1,Ywa (fun b hb hlt=>⟨hD b hb.1 hlt,hb.2⟩) (fun b hb hlt=>hs b hb.1 hlt) _ _ h2,fun b hb=>hD b (h3 b hb) (h1.lt b hb).2⟩
theorem OwnN.grow(h:OwnN X lo w ks s)(g:G w w'):OwnN X lo w' ks s :=
 Xvb h (fun b hb _=>⟨hb.1,hb.2.grow g⟩) (fun b _ hlt=>g.block hlt) fun xs h=>Xz h g
theorem Jxf{e:TypeId}{base z m:Nat}{v:Value}{xs:List Value}(h:w.ownsRow base e z v m xs)(hs:∀ b,v.ownBlock=some b→w'.heap[b]? = w.heap[b]?):w'.ownsRow base e z v m xs:=by
 refine ⟨h.1,?_⟩;rcases h.2 with h1|⟨g,cap,cur,h1,h2,h3,h4⟩;exact .inl h1;exact .inr ⟨g,cap,cur,h1,h2,(hs g (by rw [h1];rfl)).trans h3,h4⟩
theorem OwnN.gt(h:OwnN X lo w ks s)(g:GT M n0 w w')(he:M Ys=false):OwnN X lo w' ks s:=by
 have hn:=h.nd;have hl:=h.lt;exact Xvb h (fun b hb _=>⟨hb.1,hb.2.gt g he⟩) (fun b hb hlt=>g.block b hlt (.inr (hb.2.ntyr he))) fun xs h=>Jxf h fun b hb=>g.block b (hl b hb) (.inr ((hn b hb).ntyr he))
theorem OwnN.keep(h:OwnN X lo w ks s){b:Nat}(hg:w.grownBy w' (some b))(hb:b∈X):OwnN X lo w' ks s:=by
 have hne:=h.ne hb;refine Xvb h (fun k hk hlt=>⟨hk.1,hk.2.same (hg.block k hlt fun e=>by injection e with e;exact hk.1.2 (e▸hb))⟩) (fun k hk hlt=>hg.block k hlt fun e=>by injection e with e;exact hk.1.2 (e▸hb)) fun xs h=>Xw h hg (.inr fun e=>hne e.symm)
theorem OwnN.kd(h:OwnN X lo w ks s):KdN lo w ks s:=OwnK.kd h fun b hb=>⟨hb.1.1,hb.2⟩
end
end
section
variable {P:Program} {Z:List PanicEntry→Act→World→Prop} {ops:List Oper} {cl:List Nat} {lv:List Bool} {W0:World} {n:Nat} {K:Act→World→Prop} {k:Nat} {rest:List Oper} {σ:List Ent} {w:World} {d:Nat} {ty:TypeId} {pos:String} {after:Array Edge}
theorem Xx{t q q':Nat}{x y:Operand}{s zv:Value}{news:List Value}{b' o' lo:Nat}{X:List Nat}{ks ls:List Nd}(hb:(Nat.beq (clOf cl k) 2&&Nat.blt d n)=true)(ht:tyElem P t=some (Ys,9,104))(hzv:zeroOf P Ys=some zv)
 (hzs:zv.cells.size=9) (hx:Ev n σ True x s) (hO:OwnN X lo w ks s) (hy:Ev n σ True y (.slice (some ⟨b',o',none⟩) q q')) (hq:ls.length=q) (hn:RowAt w b' o' news) (hK:KRow w (fun b=>(Dx lo X b∧NdR w b)∧some b≠s.ownBlock) ls news)
 (hlen:ks.length+ls.length≤10000000) (hbase:lo≤w.heap.size) (hD:Dx lo X w.heap.size)
 (h:∀ a' c' w',OwnN X lo w' (ks++ls) (.slice a' (ks++ls).length c')→w.grownBy w' s.ownBlock→SR P Z ops cl lv W0 n K (k+1) rest ((d,True,.slice a' (ks++ls).length c') :: σ) w') :
 SR P Z ops cl lv W0 n K k (⟨some d,.call { callee:=.builtin .append,args:=#[x,y],argTypes:=#[t,t] },ty,pos,after,none⟩::rest) σ w:=by
 obtain ⟨xs,h1,h2,h3⟩:=id hO;subst hq;have ones:=Qlc hK;refine Jg hb ht hzv hzs (by decide) hx h1 hy (Zxb hK) hn ones (by simp only [maxLen];omega) (by omega) hbase fun a' c' w' ho hg hat=>?_;have hlen':(ks++ls).length=ks.length+ls.length:=by simp
 have hnd:∀ b,(Value.slice a' (ks.length+ls.length) c').ownBlock=some b→NdR w' b:=fun b hb=>by
  rcases ho.2 with ⟨q1,_⟩|⟨g,cap,cur,q1,_,q3,_⟩;rw [q1] at hb;cases hb;rw [q1] at hb;have:g=b:=by injection hb
  subst this;exact ⟨_,_,q3⟩
 have hO':OwnN X lo w' (ks++ls) (.slice a' (ks++ls).length c'):=by
  refine ⟨xs++news,by rw [hlen'];exact ho,?_,?_⟩;rw [hlen'];refine Ywa (fun b hb hlt=>⟨⟨hb.1.1,hb.1.2.same (hg.block b hlt hb.2)⟩,?_⟩) (fun b hb hlt=>hg.block b hlt hb.2) _ _ (Zyb h2 hK);rcases hat with he|he <;> rw [he]
  exact hb.2;intro e;injection e with e;omega;rw [hlen'];intro b hb;refine ⟨?_,hnd b hb⟩;rcases hat with he|he <;> rw [he] at hb
  exact (h3 b hb).1;injection hb with hb;exact hb▸hD
 have:=h a' c' w' hO' hg;rwa [List.length_append] at this
end
def typTab:List (List UInt8×Int):=[([105,110,116],1),([98,111,111,108],2),([91,93,105,110,116],5),([99,104,97,110],6),([102,117,110,99],7),([109,117,116,101,120],8),([114,119,109,117,116,101,120],9),([103,114,111,117,112],10),([111,110,99,101],11),([97,116,111,109,105,99],12)]
def typKind(s:List UInt8):Int:=(typTab.lookup s).getD 0
def ofF(t:Nd):Ty×Bool :=
 bif !leafB t then (ty0,false)
 else bif decide (t.kind=9) then (ty0,decide (t.text=[]))
 else bif decide (t.kind=8) then (bif nameB t.text then (⟨4,t.text⟩,true) else (ty0,false))
 else bif decide (t.kind=7) then (bif typeNameB t.text then (⟨typKind t.text,[]⟩,true) else (ty0,false))
 else (ty0,false)
theorem Vef:((List.range 13).all fun i=>anyS [[],[110,105,108],[99,104,97,110,32,105,110,116],[102,117,110,99,40,41]] (typTexts.getD i []) || (typeNameB (typTexts.getD i [])&&decide (typKind (typTexts.getD i [])=(i:Int))))=true:=by kernel_rfl
theorem Wra{i:Nat}(hi:i<13){s:List UInt8}(hs:anyS [[],[110,105,108],[99,104,97,110,32,105,110,116],[102,117,110,99,40,41]] s=false)(h:typTexts.getD i []=s):typeNameB s=true∧typKind s=i:=by
 have:=List.all_eq_true.1 Vef i (List.mem_range.2 hi);rw [h,hs] at this;simpa using this
theorem Vff:(typeNames.all fun s=>anyS [[99,104,97,110],[102,117,110,99]] s || (List.range 13).any fun i=>decide (typTexts.getD i []=s))=true:=by kernel_rfl
theorem Wsa{s:List UInt8}(h1:decide (s=[99,104,97,110])=false)(h2:decide (s=[102,117,110,99])=false)(h:∀ i,i<13→typTexts.getD i []≠s):typeNameB s=false:=by
 cases hn:typeNameB s;rfl;have:=List.all_eq_true.1 Vff s ((Ypa _ _).1 hn);simp only [anyS,h1,h2,Bool.or_false,Bool.false_or,List.any_eq_true,decide_eq_true_eq,List.mem_range] at this;obtain ⟨i,hi,he⟩:=this;exact absurd he (h i hi)
theorem Qda{s:List UInt8}(h:anyS [[],[110,105,108],[99,104,97,110,32,105,110,116],[102,117,110,99,40,41]] s=true):typeNameB s=false:=by
 have:=(Ypa _ _).1 h;simp only [List.mem_cons,List.not_mem_nil,or_false] at this;rcases this with rfl|rfl|rfl|rfl <;> rfl
theorem Jyf(t:Nd)(p:Option Addr)(c:Nat)(w:World)(hL:Laid w)(hb3:4≤w.heap.size)(hTx:LaidT w)(hlen:t.kids.length≤1000000):Ret PP Wde #[ndV t (.slice p t.kids.length c)] w fun v w'=>v = .tuple #[tyV (ofF t).1,.bool (ofF t).2]∧G w w':=by
 have g:=G.refl w;refine WK 56 [0] Uad ?_;refine BM fun _ w1 _ _ g E=>?_;refine AN fun b2 w2 _ _ g E=>?_;refine IF (fun h1=>?_) fun h1=>?_
 have hq:leafB t=false:=by
  have:0<t.kids.length:=by simp only [decide_eq_true_eq] at h1;omega
  unfold leafB;rw [decide_eq_false_iff_not];omega
 refine AS fun _ _ _ g E=>?_;refine RTN ?_;refine ⟨?_,g⟩;have h0:Str [] = .string ⟨#[]⟩:=rfl;unfold ofF;simp only [hq,Bool.not_true,Bool.not_false,h1,cond_true,cond_false]
 first
 | rfl
 | (rw [of_decide_eq_true h6];rfl)
 | (rw [of_decide_eq_true h7];rfl)
 | (rw [Qda h11];rfl)
 | (obtain ⟨e1,e2⟩:=Wra h12 h11 (of_decide_eq_true h13);rw [e1,e2];rfl)
 | (rw [Wsa h6 h7 (fun j hj=>hI1.2 j (by omega))];rfl)
 have hq:leafB t=true:=by
  unfold leafB;rw [decide_eq_true_eq];simp only [decide_eq_false_iff_not] at h1;omega
 refine IF (fun h2=>?_) fun h2=>?_;(try simp only [bsimp] at h2);refine AU ?_;refine Xu (rowR (some b2)) [3,3,0,3,1,3] [0,0,2,6,1,31] mix (by kernel_rfl) [0,1,2,3,4,5] O ?_;have g:=gdr g;replace E:=E.dr;refine Zx 0 O O (fun _=>Uv [_,_] Wl O Vi (Vk) O) (Zx 1 O O (fun _=>Zn Yn (Zd O)) (Wh 2 O O (fun w1 hx=>Zw Yg (Zd O) (fun _=>(E.g1.keep hx (fun h=>E.ne 1 0 O O O (Option.some.inj h))).at_ O)) (Zx 3 O O (fun _=>Xnc (Zd O) Xg) (Zu 4 O O ?_))));refine Zv (L':=[5]) [3,3,0,3,2,3] O O O ?_;refine AS fun _ hgS2 _ g E=>?_;refine Yj (hgS2) ?_;refine Zx 5 O O (fun _=>Yu (Zd O)) (TK [2,3] (Qp (kq (Xe (Ut (rs:=[.cell 2 24,.tmp 3]) (vs:=[_,_]) O O (Qy O Xd O (E.g0.row) (Qm O (Wy))) O ?_)))));refine ⟨?_,g⟩;have h0:Str [] = .string ⟨#[]⟩:=rfl;unfold ofF;simp only [hq,Bool.not_true,Bool.not_false,h1,h2,cond_true,cond_false]
 first
 | rfl
 | (rw [of_decide_eq_true h6];rfl)
 | (rw [of_decide_eq_true h7];rfl)
 | (rw [Qda h11];rfl)
 | (obtain ⟨e1,e2⟩:=Wra h12 h11 (of_decide_eq_true h13);rw [e1,e2];rfl)
 | (rw [Wsa h6 h7 (fun j hj=>hI1.2 j (by omega))];rfl)
 refine IF (fun h3=>?_) fun h3=>?_;(try simp only [bsimp] at h3);refine AU ?_;refine CP (Jhf _ _ (hL.grow g) (by have:=g.size;omega)) (fun w23 g23=>?_);have g:=g.trans g23;replace E:=E.grow g23;refine Ze (kq (Wn O (fun h4=>?_) (fun h4=>?_)));(try simp only [bsimp] at h4);refine Zi (Zk (Yf Yn O (Yp Yg O (E.g1.at_ O) (Jv Wl Vi (pqc O (pqc O pq0)) O O (AS fun _ _ _ g E=>?_)))));refine RTN ?_;refine ⟨?_,g⟩;have h0:Str [] = .string ⟨#[]⟩:=rfl;unfold ofF;simp only [hq,Bool.not_true,Bool.not_false,h1,h2,h3,h4,cond_true,cond_false]
 first
 | rfl
 | (rw [of_decide_eq_true h6];rfl)
 | (rw [of_decide_eq_true h7];rfl)
 | (rw [Qda h11];rfl)
 | (obtain ⟨e1,e2⟩:=Wra h12 h11 (of_decide_eq_true h13);rw [e1,e2];rfl)
 | (rw [Wsa h6 h7 (fun j hj=>hI1.2 j (by omega))];rfl)
 refine AS fun _ _ _ g E=>?_;refine RTN ?_;refine ⟨?_,g⟩;have h0:Str [] = .string ⟨#[]⟩:=rfl;unfold ofF;simp only [hq,Bool.not_true,Bool.not_false,h1,h2,h3,h4,cond_true,cond_false]
 first
 | rfl
 | (rw [of_decide_eq_true h6];rfl)
 | (rw [of_decide_eq_true h7];rfl)
 | (rw [Qda h11];rfl)
 | (obtain ⟨e1,e2⟩:=Wra h12 h11 (of_decide_eq_true h13);rw [e1,e2];rfl)
 | (rw [Wsa h6 h7 (fun j hj=>hI1.2 j (by omega))];rfl)
 refine IF (fun h5=>?_) fun h5=>?_;(try simp only [bsimp] at h5);refine IF (fun h6=>?_) fun h6=>?_;(try simp only [bsimp] at h6);refine AS fun _ _ _ g E=>?_;refine RTN ?_;refine ⟨?_,g⟩;have h0:Str [] = .string ⟨#[]⟩:=rfl;unfold ofF;simp only [hq,Bool.not_true,Bool.not_false,h1,h2,h3,h5,h6,cond_true,cond_false]
 first
 | rfl
 | (rw [of_decide_eq_true h6];rfl)
 | (rw [of_decide_eq_true h7];rfl)
 | (rw [Qda h11];rfl)
 | (obtain ⟨e1,e2⟩:=Wra h12 h11 (of_decide_eq_true h13);rw [e1,e2];rfl)
 | (rw [Wsa h6 h7 (fun j hj=>hI1.2 j (by omega))];rfl)
 refine IF (fun h7=>?_) fun h7=>?_;(try simp only [bsimp] at h7);refine AS fun _ _ _ g E=>?_;refine RTN ?_;refine ⟨?_,g⟩;have h0:Str [] = .string ⟨#[]⟩:=rfl;unfold ofF;simp only [hq,Bool.not_true,Bool.not_false,h1,h2,h3,h5,h6,h7,cond_true,cond_false]
 first
 | rfl
 | (rw [of_decide_eq_true h6];rfl)
 | (rw [of_decide_eq_true h7];rfl)
 | (rw [Qda h11];rfl)
 | (obtain ⟨e1,e2⟩:=Wra h12 h11 (of_decide_eq_true h13);rw [e1,e2];rfl)
 | (rw [Wsa h6 h7 (fun j hj=>hI1.2 j (by omega))];rfl)
 refine AU ?_;refine' OR [1,2,3] (fun hb8=>?y8) (kq ?n8)
 case y8 =>
  refine AU ?_;refine' OR [1,2,3] (fun hb9=>?y9) knr
  case y9 =>
   refine AU ?_;refine' OR [1,2,3] (fun hb10=>?y10) knr
   case y10 =>
    refine AU ?_;refine SK [37,1,2,3] ?_;exact Ze knr
 case n8 =>
  refine Wn O (fun h11=>?_) (fun h11=>?_);replace h11:(anyS [[],[110,105,108],[99,104,97,110,32,105,110,116],[102,117,110,99,40,41]] t.text)=true:=h11;refine Zi (Zk (Jv Wl Vi pq0 O O (AS fun _ _ _ g E=>?_)));refine Yr O (Ze (kq (Xe (Ut (rs:=[.cell 2 24,.tmp 3]) (vs:=[_,_]) O O (Qy O Xd O (E.g0.row) (Qm O (Wy))) O ?_))));refine ⟨?_,g⟩;have h0:Str [] = .string ⟨#[]⟩:=rfl;unfold ofF;simp only [hq,Bool.not_true,Bool.not_false,h1,h2,h3,h5,h6,h7,h11,cond_true,cond_false]
  first
  | rfl
  | (rw [of_decide_eq_true h6];rfl)
  | (rw [of_decide_eq_true h7];rfl)
  | (rw [Qda h11];rfl)
  | (obtain ⟨e1,e2⟩:=Wra h12 h11 (of_decide_eq_true h13);rw [e1,e2];rfl)
  | (rw [Wsa h6 h7 (fun j hj=>hI1.2 j (by omega))];rfl)
  replace h11:(anyS [[],[110,105,108],[99,104,97,110,32,105,110,116],[102,117,110,99,40,41]] t.text)=false:=h11;refine Yb (kq (Zi (Zk (Ve Xcc O O (hTx.grow g) (Zp O (Ze (kq (Yo (Jn (fun (i:Nat) u1=>(i≤13∧∀ j,j<i→typTexts.getD j []≠t.text)∧G w2 u1) [(1,True,_),(2,True,_),(43,True,_)] (fun (i:Nat)=>[(44,True,.int .i64 i)]) (fun (i:Nat)=>13-i) (0) ⟨⟨Nat.zero_le _,fun j hj=>absurd hj (Nat.not_lt_zero j)⟩,G.refl _⟩ (Za O (Za O (Za O (Za O (Zo _))))) ?_)))))))));rintro i u1 ⟨hI1,gl1⟩;have g:=g.trans gl1;replace E:=E.grow gl1;refine Zi (Zk (Xna O O (Ze (kq (Zi (Wn O (fun h12=>?_) (fun h12=>?_)))))));replace h12:i<13:=by simp only [decide_eq_true_eq] at h12;omega
  refine Yb (kq (Zi (Yo (Zi (Zk (Zp O (Zq O (fun _=>Ylf Zxe (Zd O) (Zd O) (fun _=>by omega) (fun _=>by show (typTexts.map Str).toArray[((i:Nat):Int).toNat]? = _;rw [List.getElem?_toArray];exact Jkf (k:=(i:Int)) (by omega) (by omega))) (Yr O (Yr O (Ze (kq (Zi (Zk (Zp O (Yf Yn O (Yp Yg O (E.g1.at_ O) (Jvd O O (?_))))))))))))))))));refine Ze (kq (Wn O (fun h13=>?_) (fun h13=>?_)));replace h13:(decide (typTexts.getD i []=t.text))=true:=h13;refine AS fun _ ga _ g E=>?_;first|replace gl1:=Ya gl1 ga (by omega)|clear gl1|skip
  refine RTN ?_;refine ⟨?_,g⟩;have h0:Str [] = .string ⟨#[]⟩:=rfl;unfold ofF;simp only [hq,Bool.not_true,Bool.not_false,h1,h2,h3,h5,h6,h7,h11,h12,h13,cond_true,cond_false]
  first
  | rfl
  | (rw [of_decide_eq_true h6];rfl)
  | (rw [of_decide_eq_true h7];rfl)
  | (rw [Qda h11];rfl)
  | (obtain ⟨e1,e2⟩:=Wra h12 h11 (of_decide_eq_true h13);rw [e1,e2];rfl)
  | (rw [Wsa h6 h7 (fun j hj=>hI1.2 j (by omega))];rfl)
  replace h13:(decide (typTexts.getD i []=t.text))=false:=h13;refine AU ?_;refine SK [44,1,2,43] ?_;refine Ze (fun a ha=>?_)
  exact ⟨i+1,ha,⟨⟨h12,fun j hj=>by
   by_cases e:j=i;subst e;simpa using h13;exact hI1.2 j (by omega)⟩,gl1⟩,by omega⟩
  replace h12:i=13:=by simp only [decide_eq_false_iff_not] at h12;omega
  refine AS fun _ ga _ g E=>?_;first|replace gl1:=Ya gl1 ga (by omega)|clear gl1|skip
  refine RTN ?_;refine ⟨?_,g⟩;have h0:Str [] = .string ⟨#[]⟩:=rfl;unfold ofF;simp only [hq,Bool.not_true,Bool.not_false,h1,h2,h3,h5,h6,h7,h11,h12,cond_true,cond_false]
  first
  | rfl
  | (rw [of_decide_eq_true h6];rfl)
  | (rw [of_decide_eq_true h7];rfl)
  | (rw [Qda h11];rfl)
  | (obtain ⟨e1,e2⟩:=Wra h12 h11 (of_decide_eq_true h13);rw [e1,e2];rfl)
  | (rw [Wsa h6 h7 (fun j hj=>hI1.2 j (by omega))];rfl)
 refine AS fun _ _ _ g E=>?_;refine RTN ?_;refine ⟨?_,g⟩;have h0:Str [] = .string ⟨#[]⟩:=rfl;unfold ofF;simp only [hq,Bool.not_true,Bool.not_false,h1,h2,h3,h5,cond_true,cond_false]
 first
 | rfl
 | (rw [of_decide_eq_true h6];rfl)
 | (rw [of_decide_eq_true h7];rfl)
 | (rw [Qda h11];rfl)
 | (obtain ⟨e1,e2⟩:=Wra h12 h11 (of_decide_eq_true h13);rw [e1,e2];rfl)
 | (rw [Wsa h6 h7 (fun j hj=>hI1.2 j (by omega))];rfl)
structure Fld where
  name:List UInt8
  ty:Ty
def fldCells(f:Fld):List Value:=[Str f.name,.int .i64 f.ty.kind,Str f.ty.name]
theorem Zzd(f:Fld):(fldCells f).length=3:=rfl
section
variable {α β:Type} (f:α→Option β)
def mapO:List α→Option (List β)
 | []=>some []
 | a::l=>match f a,mapO l with
  | some b,some r=>some (b::r)
  | _,_=>none
theorem Qtd:∀ (l:List α) (a:α),mapO f (l++[a])=match mapO f l,f a with
  | some r,some b=>some (r++[b])
  | _,_=>none
 | [],a=>by simp only [mapO,List.nil_append];cases f a <;> rfl
 | x::l,a=>by
  rw [List.cons_append,mapO,Qtd l a,mapO];cases f x <;> cases mapO f l <;> cases f a <;> rfl
theorem Wld:∀ (l:List α) (a:α),a∈l→f a=none→mapO f l=none
 | x::l,a,h,hn=>by
  rw [mapO];rcases List.mem_cons.1 h with rfl|h;rw [hn];rw [Wld l a h hn];cases f x <;> rfl
theorem Wmd:∀ (l:List α) (r:List β),mapO f l=some r→r.length=l.length
 | [],r,h=>by injection h with h;subst h;rfl
 | x::l,r,h=>by
  rw [mapO] at h
  cases h1:f x with
  | none=>rw [h1] at h;cases h
  | some b =>
   cases h2:mapO f l with
   | none=>rw [h1,h2] at h;cases h
   | some r'=>rw [h1,h2] at h;injection h with h;subst h;rw [List.length_cons,Wmd l r' h2];rfl
end
def kid0(t:Nd):Nd:=t.kids.getD 0 nd0
def Zib(f:Nd):Option Fld:=bif !decide (f.kind=3) || !decide ((f.kids.length:Int)=1) then none else bif (ofF (kid0 f)).2 then some ⟨f.text,(ofF (kid0 f)).1⟩ else none
def isStr(name:List UInt8)(d:Nd):Bool:=!(!decide (d.kind=2) || !decide (d.text=name))
def Zma(t:Nd)(name:List UInt8):List Fld×Bool:=match t.kids.find? (isStr name) with
 | none=>([],false)
 | some d=>match mapO Zib d.kids with
  | none=>([],false)
  | some l=>(l,true)
theorem Vrg{name:List UInt8}{l:List Nd}{i:Nat}(hi:i<l.length)(h1:∀ j,(hj:j<l.length)→j<i→isStr name l[j]=false)(h2:isStr name l[i]=true):l.find? (isStr name)=some l[i]:=by
 rw [List.find?_eq_some_iff_getElem];exact ⟨h2,i,hi,rfl,fun j hj=>by rw [h1 j (by omega) hj];rfl⟩
theorem Vsg{name:List UInt8}{l:List Nd}(h1:∀ j,(hj:j<l.length)→isStr name l[j]=false):l.find? (isStr name)=none:=by
 rw [List.find?_eq_none];intro x hx;obtain ⟨j,hj,rfl⟩:=List.getElem_of_mem hx;rw [h1 j hj];simp
def FldV(r:List Fld×Bool)(v:Value)(w:World):Prop:=∃ l,v = .tuple #[l,.bool r.2]∧RowF fldCells w r.1 l
theorem Vtg{w:World}{base:Nat}{s:Value}{l:List Fld}(h:w.ownsRow base Jha 3 s l.length (l.flatMap fldCells)):RowF fldCells w l s:=Wgd h rfl
theorem Vug{t:Nd}(h:t.kids.length=1):∃ h0:0<t.kids.length,kid0 t=t.kids[0]:=⟨by omega,by simp [kid0,List.getD_eq_getElem?_getD,List.getElem?_eq_getElem (show 0<t.kids.length by omega)]⟩
theorem Jzf{l:List Nd}{k:Nat}(hk:k<l.length){r:List Fld}{b:Fld}(h:mapO Zib (l.take k)=some r)(hb:Zib l[k]=some b):mapO Zib (l.take (k+1))=some (r++[b]):=by
 rw [Jh hk,Qtd,h,hb]
theorem Zag{w:World}{base:Nat}{l:List Fld}(f:Fld){a:Option Addr}{c:Nat}(h:w.ownsRow base Jha 3 (.slice a (l.length+1) c) (l.length+1) (l.flatMap fldCells++fldCells f)):w.ownsRow base Jha 3 (.slice a (l++[f]).length c) (l++[f]).length ((l++[f]).flatMap fldCells):=by
 rw [List.flatMap_append,List.length_append,List.flatMap_cons,List.flatMap_nil,List.append_nil];exact h
def opAr:List (List UInt8):=[[43],[45],[42],[47],[37]]
def opLt:List (List UInt8):=[[60],[60,61],[62],[62,61]]
def opEq:List (List UInt8):=[[61,61],[33,61]]
def opLo:List (List UInt8):=[[38,38],[124,124]]
def binT(op:List UInt8)(a b:Ty):Ty×Bool :=
 bif anyS opAr op then bif tyEqB a tInt&&tyEqB b tInt then (tInt,true) else (ty0,false)
 else bif anyS opLt op then bif tyEqB a tInt&&tyEqB b tInt then (tBool,true) else (ty0,false)
 else bif anyS opEq op then bif compB a b then (tBool,true) else (ty0,false)
 else bif anyS opLo op then bif tyEqB a tBool&&tyEqB b tBool then (tBool,true) else (ty0,false)
 else (ty0,false)
theorem Vvg(op:List UInt8)(a b:Ty)(w:World):Ret PP Uxd #[Str op,tyV a,tyV b] w fun v w'=>v = .tuple #[tyV (binT op a b).1,.bool (binT op a b).2]∧G w w':=by
 have g:=G.refl w;refine WK 62 [0,1,2] Zjd ?_;refine BM fun _ _ _ _ g E=>?_;refine BN fun _ _ _ _ g E=>?_;refine AN fun _ _ _ _ g E=>?_;refine AN fun _ _ _ _ g E=>?_;refine AN fun _ _ _ _ g E=>?_;refine AS fun _ _ _ g E=>?_;refine AS fun _ _ _ g E=>?_;refine AU ?_;refine' OR [4,5,6,7,8,9,12] (fun hb1=>?y1) (kq ?n1)
 case y1 =>
  refine AU ?_;refine' OR [4,5,6,7,8,9,12] (fun hb2=>?y2) knr
  case y2 =>
   refine AU ?_;refine' OR [4,5,6,7,8,9,12] (fun hb3=>?y3) knr
   case y3 =>
    refine AU ?_;refine' OR [4,5,6,7,8,9,12] (fun hb4=>?y4) knr
    case y4 =>
     refine AU ?_;refine SK [13,4,5,6,7,8,9,12] ?_;exact Ze knr
 case n1 =>
  refine IF (fun h5=>?_) fun h5=>?_;(try simp only [bsimp] at h5);refine IF (fun h6=>?_) fun h6=>?_;replace h6:(tyEqB a tInt&&tyEqB b tInt)=true:=h6;refine AS fun _ _ _ g E=>?_;refine RTN ?_;refine ⟨?_,g⟩;unfold binT;simp only [anyS,opAr,opLt,opEq,opLo,h5,h6,cond_true,cond_false];rfl;replace h6:(tyEqB a tInt&&tyEqB b tInt)=false:=h6;refine AS fun _ _ _ g E=>?_;refine RTN ?_;refine ⟨?_,g⟩;unfold binT;simp only [anyS,opAr,opLt,opEq,opLo,h5,h6,cond_true,cond_false];rfl;refine AU ?_;refine' OR [4,5,6,7,8,9,12] (fun hb7=>?y7) (kq ?n7)
  case y7 =>
   refine AU ?_;refine' OR [4,5,6,7,8,9,12] (fun hb8=>?y8) knr
   case y8 =>
    refine AU ?_;refine' OR [4,5,6,7,8,9,12] (fun hb9=>?y9) knr
    case y9 =>
     refine AU ?_;refine SK [28,4,5,6,7,8,9,12] ?_;exact Ze knr
  case n7 =>
   refine IF (fun h10=>?_) fun h10=>?_;(try simp only [bsimp] at h10);refine IF (fun h11=>?_) fun h11=>?_;replace h11:(tyEqB a tInt&&tyEqB b tInt)=true:=h11;refine AS fun _ _ _ g E=>?_;refine RTN ?_;refine ⟨?_,g⟩;unfold binT;simp only [anyS,opAr,opLt,opEq,opLo,h5,h10,h11,cond_true,cond_false];rfl;replace h11:(tyEqB a tInt&&tyEqB b tInt)=false:=h11;refine AS fun _ _ _ g E=>?_;refine RTN ?_;refine ⟨?_,g⟩;unfold binT;simp only [anyS,opAr,opLt,opEq,opLo,h5,h10,h11,cond_true,cond_false];rfl;refine AU ?_;refine' OR [4,5,6,7,9,12] (fun hb12=>?y12) (kq ?n12)
   case y12 =>
    refine AU ?_;refine SK [42,4,5,6,7,9,12] ?_;exact Ze knr
   case n12 =>
    refine IF (fun h13=>?_) fun h13=>?_;(try simp only [bsimp] at h13);refine AU ?_;refine CP (Jjf _ _ _) (fun w47 g47=>?_);have g:=g.trans g47;replace E:=E.grow g47;refine IF (fun h14=>?_) fun h14=>?_;(try simp only [bsimp] at h14);refine AS fun _ _ _ g E=>?_;refine RTN ?_;refine ⟨?_,g⟩;unfold binT;simp only [anyS,opAr,opLt,opEq,opLo,h5,h10,h13,h14,cond_true,cond_false];rfl;refine AS fun _ _ _ g E=>?_;refine RTN ?_;refine ⟨?_,g⟩;unfold binT;simp only [anyS,opAr,opLt,opEq,opLo,h5,h10,h13,h14,cond_true,cond_false];rfl;refine AU ?_;refine' OR [4,5,6,7,9] (fun hb15=>?y15) (kq ?n15)
    case y15 =>
     refine AU ?_;refine SK [49,4,5,6,7,9] ?_;exact Ze knr
    case n15 =>
     refine IF (fun h16=>?_) fun h16=>?_;(try simp only [bsimp] at h16);refine IF (fun h17=>?_) fun h17=>?_;replace h17:(tyEqB a tBool&&tyEqB b tBool)=true:=h17;refine AS fun _ _ _ g E=>?_;refine RTN ?_;refine ⟨?_,g⟩;unfold binT;simp only [anyS,opAr,opLt,opEq,opLo,h5,h10,h13,h16,h17,cond_true,cond_false];rfl;replace h17:(tyEqB a tBool&&tyEqB b tBool)=false:=h17;refine AS fun _ _ _ g E=>?_;refine RTN ?_;refine ⟨?_,g⟩;unfold binT;simp only [anyS,opAr,opLt,opEq,opLo,h5,h10,h13,h16,h17,cond_true,cond_false];rfl;refine AS fun _ _ _ g E=>?_;refine RTN ?_;refine ⟨?_,g⟩;unfold binT;simp only [anyS,opAr,opLt,opEq,opLo,h5,h10,h13,h16,cond_true,cond_false];rfl
theorem Job(y:Ty):(tyCells y).length=2:=rfl
def Zzb(s:List UInt8):Bool:=decide (s=[76,111,99,107]) || decide (s=[85,110,108,111,99,107])
def mthF(y:Ty)(s:List UInt8):List Ty×Ty×Bool :=
 bif !tyValidB y then ([],ty0,false)
 else bif decide (y.kind=8) then ([],ty0,Zzb s)
 else bif decide (y.kind=9) then ([],ty0,(Zzb s || decide (s=[82,76,111,99,107])) || decide (s=[82,85,110,108,111,99,107]))
 else bif decide (y.kind=10) then (bif decide (s=[65,100,100]) then ([tInt],ty0,true) else ([],ty0,decide (s=[68,111,110,101]) || decide (s=[87,97,105,116])))
 else bif decide (y.kind=11) then (bif decide (s=[68,111]) then ([tFunc],ty0,true) else ([],ty0,false))
 else bif decide (y.kind=12) then (bif decide (s=[76,111,97,100]) then ([],tInt,true) else bif decide (s=[83,116,111,114,101]) then ([tInt],ty0,true) else bif decide (s=[65,100,100]) then ([tInt],tInt,true) else bif decide (s=[67,111,109,112,97,114,101,65,110,100,83,119,97,112]) then ([tInt,tInt],tBool,true) else ([],ty0,false))
 else ([],ty0,false)
theorem Yyf{w:World}{D:Nat→Prop}{t:Nd}{p:Option Addr}{c:Nat}(hk:Kd w D t.kids (.slice p t.kids.length c))(i:Nat):∃ p' c',i<t.kids.length→p=some ⟨pb p,po p,none⟩∧RowAt w (pb p) (po p+i*9) (ndCells (Zb t i) (.slice p' (Zb t i).kids.length c'))∧Kd w D (Zb t i).kids (.slice p' (Zb t i).kids.length c'):=by
 by_cases h:i<t.kids.length;obtain ⟨h1,p',c',h2,h3⟩:=Yl hk h;exact ⟨p',c',fun _=>⟨h1,h2,h3⟩⟩;exact ⟨none,0,fun h'=>absurd h' h⟩
def lenK(t:Nd)(n:Int):Bool:=decide ((t.kids.length:Int)=n)
def fileVarB(k:Nd):Bool:=decide (k.kind=6)&&(!lenK k 2 || !decide ((Zb k 1).kind=9))
def Yua(t:Nd):Bool :=
 bif decide (t.kind=1) then !(t.kids.any fileVarB)&&everyB t (memK [2,6,4])
 else bif anyK [2,5] t.kind then everyB t (memK [3])
 else bif decide (t.kind=3) then kidsB t [typK]
 else bif decide (t.kind=4) then kidsB t [memK [5],fun k=>typK k || memK [9] k,memK [10]]
 else bif decide (t.kind=6) then kidsB t [typK,fun k=>expK k || memK [9] k]
 else bif decide (t.kind=10) then everyB t stK
 else bif anyK [11,17,21,28,31,33,35,36,37] t.kind then kidsB t [expK]
 else bif anyK [12,16,29,32] t.kind then kidsB t [expK,expK]
 else bif decide (t.kind=13) then kidsB t [memK [30,33]]
 else bif anyK [14,15] t.kind then kidsB t [memK [30]]
 else bif decide (t.kind=18) then kidsB t [expK,memK [10],memK [10,18,9]]
 else bif decide (t.kind=19) then kidsB t [fun k=>expK k || memK [9] k,memK [10]]
 else bif decide (t.kind=20) then lenK t 0 || kidsB t [expK]
 else bif decide (t.kind=22) then everyB t (memK [23])
 else bif decide (t.kind=23) then (lenK t 2&&Qsd (Zb t 0))&&memK [10] (Zb t 1).kind
 else bif decide (t.kind=30) then decide ((0:Int)<t.kids.length)&&everyB t expK
 else bif decide (t.kind=24) then lenK t 0&&decide (0≤t.num)
 else bif decide (t.kind=25) then lenK t 0&&(decide (t.num=0) || decide (t.num=1))
 else bif anyK [27,34,26,9,7,8] t.kind then lenK t 0
 else bif decide (t.kind=38) then kidsB t [memK [10]]
 else false
def locB(t:Nd):Bool:=textB' t&&Yua t
def permF(t:Nd):Bool:=para (fun t l=>locB t&&l.all id) t
theorem Jd(t:Nd):permF t=(locB t&&t.kids.all permF):=by
 rw [permF,Yaa,List.all_map];rfl
def maxL(l:List Nat):Nat:=l.foldl max 0
def depthN(t:Nd):Nat:=para (fun _ l=>maxL l+1) t
theorem Qud(t:Nd):depthN t=maxL (t.kids.map depthN)+1:=Yaa _ t
theorem Yhe(l:List Nat)(a d:Nat):l.foldl max a≤d↔a≤d∧∀ x∈l,x≤d:=by
 induction l generalizing a with
 | nil=>simp
 | cons x xs ih=>simp only [List.foldl_cons,ih,List.forall_mem_cons,Nat.max_le,and_assoc]
theorem Ygd(l:List Nat)(d:Nat):maxL l≤d↔∀ x∈l,x≤d:=by
 rw [maxL,Yhe];exact ⟨fun h=>h.2,fun h=>⟨Nat.zero_le _,h⟩⟩
theorem Vgf(t:Nd)(d:Nat):depthN t≤d↔0<d∧∀ k∈t.kids,depthN k≤d-1:=by
 rw [Qud];constructor;intro h;refine ⟨by omega,fun k hk=>?_⟩;have:=(Ygd (t.kids.map depthN) (d-1)).1 (by omega);exact this _ (List.mem_map_of_mem hk);rintro ⟨h0,h⟩;have:=(Ygd (t.kids.map depthN) (d-1)).2 (fun x hx=>by obtain ⟨k,hk,rfl⟩:=List.mem_map.1 hx;exact h k hk);omega
theorem Yie:∀ t,depthN t≤count t:=by
 refine Nd.ind fun t ih=>?_;rw [Vgf];exact ⟨Uo t,fun k hk=>by have:=ih k hk;have:=Jp hk;omega⟩
def Zbg(d:Nat)(t:Nd):Bool:=permF t&&decide (depthN t≤d)
theorem Vhf{t:Nd}{n:Nat}(h:count t≤n)(i:Nat):(Zb t i).kids.length≤n:=by
 by_cases hi:i<t.kids.length;rw [Wc hi];have:=Jp (List.getElem_mem hi);have:=Wz t.kids[i];omega;have:Zb t i=nd0:=by simp only [Zb,List.getD_eq_getElem?_getD];rw [List.getElem?_eq_none (by omega)];rfl
 rw [this];exact Nat.zero_le _
def validB(t:Nd):Bool:=decide (t.kind=1)&&Zbg 50 t
def exprB(t:Nd):Bool:=expK t.kind&&permF t
def blockB(t:Nd):Bool:=decide (t.kind=10)&&permF t
def stmtB(t:Nd):Bool:=stK t.kind&&permF t
def ifB(t:Nd):Bool:=decide (t.kind=18)&&permF t
def varB(t:Nd):Bool:=decide (t.kind=6)&&permF t
def commF(t:Nd):Bool:=Qsd t&&permF t
def plainB(t:Nd):Bool:=decide (t.text=[])
def noneB(t:Nd):Bool:=(decide (t.kind=9)&&decide (t.text=[]))&&lenK t 0
def kindB(t:Nd)(k:Int):Bool:=decide (t.kind=k)&&exprB t
theorem Yzf{α:Type}{l:List α}(h:l.length=2):∃ a b,l=[a,b]:=by
 match l,h with|[a,b],_=>exact ⟨a,b,rfl⟩
theorem Vif{α:Type}{l:List α}(h:l.length=3):∃ a b c,l=[a,b,c]:=by
 match l,h with|[a,b,c],_=>exact ⟨a,b,c,rfl⟩
theorem Zra(a k:Int):memK [a] k=decide (k=a):=by simp [memK]
theorem Jpb{t:Nd}(n:Nat)(h:t.kids.length≠n):lenK t (n:Int)=false:=by rw [lenK,Wdh];omega
theorem Yhd{t:Nd}{qs:List (Int→Bool)}(h:t.kids.length≠qs.length):kidsB t qs=false:=by rw [kidsB,Wdh h,Bool.false_and]
theorem Zcg{t:Nd}{f:Nd→Bool}:(lenK t 0&&t.kids.all f)=lenK t 0:=by
 by_cases h:t.kids.length=0;rw [List.length_eq_zero_iff.1 h,List.all_nil,Bool.and_true];rw [show lenK t 0=false from Jpb 0 h];rfl
theorem Jze{t:Nd}{q:Int→Bool}:(kidsB t [q]&&t.kids.all permF)=(lenK t 1&&(q (Zb t 0).kind&&permF (Zb t 0))):=by
 by_cases h:t.kids.length=1;obtain ⟨a,ha⟩:=List.length_eq_one_iff.1 h;simp [lenK,kidsB,Zb,ha,List.range_succ];rw [show lenK t 1=false from Jpb 1 h,Yhd h];rfl
theorem Yje{t:Nd}{q q2:Int→Bool}:(kidsB t [q,q2]&&t.kids.all permF)=(lenK t 2&&((q (Zb t 0).kind&&permF (Zb t 0))&&(q2 (Zb t 1).kind&&permF (Zb t 1)))):=by
 by_cases h:t.kids.length=2;obtain ⟨a,b,ha⟩:=Yzf h;simp [lenK,kidsB,Zb,ha,List.range_succ];ac_rfl;rw [show lenK t 2=false from Jpb 2 h,Yhd h];rfl
theorem Zaf{t:Nd}{q q2 q3:Int→Bool}:(kidsB t [q,q2,q3]&&t.kids.all permF)=(lenK t 3&&(((q (Zb t 0).kind&&permF (Zb t 0))&&(q2 (Zb t 1).kind&&permF (Zb t 1)))&&(q3 (Zb t 2).kind&&permF (Zb t 2)))):=by
 by_cases h:t.kids.length=3;obtain ⟨a,b,c,ha⟩:=Vif h;simp [lenK,kidsB,Zb,ha,List.range_succ];ac_rfl;rw [show lenK t 3=false from Jpb 3 h,Yhd h];rfl
theorem all_1{t:Nd}{f:Nd→Bool}:(lenK t 1&&t.kids.all f)=(lenK t 1&&f (Zb t 0)):=by
 by_cases h:t.kids.length=1;obtain ⟨a,ha⟩:=List.length_eq_one_iff.1 h;simp [lenK,Zb,ha];rw [show lenK t 1=false from Jpb 1 h];rfl
theorem Jxg{t:Nd}{f:Nd→Bool}:(lenK t 2&&t.kids.all f)=(lenK t 2&&(f (Zb t 0)&&f (Zb t 1))):=by
 by_cases h:t.kids.length=2;obtain ⟨a,b,ha⟩:=Yzf h;simp [lenK,Zb,ha];rw [show lenK t 2=false from Jpb 2 h];rfl
theorem Xwb{t:Nd}{q:Int→Bool}:(everyB t q&&t.kids.all permF)=t.kids.all fun k=>q k.kind&&permF k:=by
 rw [everyB,Bool.eq_iff_iff];simp only [Bool.and_eq_true,List.all_eq_true];exact ⟨fun h k hk=>⟨h.1 k hk,h.2 k hk⟩,fun h=>⟨fun k hk=>(h k hk).1,fun k hk=>(h k hk).2⟩⟩
theorem Vwg{t:Nd}:(everyB t expK&&t.kids.all permF)=t.kids.all exprB:=Xwb
def Qv(t:Nd):Bool :=
 bif decide (t.kind=24) then (plainB t&&lenK t 0)&&decide (0≤t.num)
 else bif decide (t.kind=25) then (plainB t&&lenK t 0)&&(decide (t.num=0) || decide (t.num=1))
 else bif decide (t.kind=26) then plainB t&&lenK t 0
 else bif anyK [27,34] t.kind then nameB t.text&&lenK t 0
 else bif decide (t.kind=28) then (nameB t.text&&lenK t 1)&&exprB (Zb t 0)
 else bif decide (t.kind=29) then (plainB t&&lenK t 2)&&t.kids.all exprB
 else bif decide (t.kind=30) then (plainB t&&decide (1≤(t.kids.length:Int)))&&t.kids.all exprB
 else bif decide (t.kind=31) then ((decide (t.text=[45]) || decide (t.text=[33]))&&lenK t 1)&&exprB (Zb t 0)
 else bif decide (t.kind=32) then (anyS binOps t.text&&lenK t 2)&&t.kids.all exprB
 else bif anyK [33,35,36,37] t.kind then (plainB t&&lenK t 1)&&exprB (Zb t 0)
 else bif decide (t.kind=38) then (plainB t&&lenK t 1)&&blockB (Zb t 0)
 else false
theorem fl0{t:Nd}{X:Bool}:(X&&lenK t 0)=((X&&lenK t 0)&&t.kids.all permF):=by rw [Bool.and_assoc,Zcg]
theorem fl0'{t:Nd}{X Y:Bool}:((X&&lenK t 0)&&Y)=((X&&(lenK t 0&&Y))&&t.kids.all permF):=by
 rw [show ((X&&(lenK t 0&&Y))&&t.kids.all permF)=((X&&Y)&&(lenK t 0&&t.kids.all permF)) by simp only [Bool.and_assoc,Bool.and_comm,Bool.and_left_comm],Zcg];simp only [Bool.and_assoc,Bool.and_comm,Bool.and_left_comm]
theorem fl1{t:Nd}{X:Bool}{q:Int→Bool}:((X&&lenK t 1)&&(q (Zb t 0).kind&&permF (Zb t 0)))=((X&&kidsB t [q])&&t.kids.all permF):=by rw [Bool.and_assoc,Bool.and_assoc,Jze]
theorem fl2{t:Nd}{X:Bool}:((X&&lenK t 2)&&t.kids.all exprB)=((X&&kidsB t [expK,expK])&&t.kids.all permF):=by rw [Bool.and_assoc,Bool.and_assoc,Yje,Jxg];rfl
theorem flv{t:Nd}{X Y Z:Bool}(h:Y=Z):((X&&Y)&&t.kids.all exprB)=((X&&(Z&&everyB t expK))&&t.kids.all permF):=by rw [Bool.and_assoc,Bool.and_assoc,Bool.and_assoc,Vwg,h]
theorem Zsa(t:Nd):Qv t=exprB t:=by
 rw [exprB,Jd,locB];unfold Qv textB' Yua;by_cases h:t.kind=24;rw [h];exact fl0';by_cases h1:t.kind=25;rw [h1];exact fl0';by_cases h2:t.kind=26;rw [h2];exact fl0;by_cases h3:t.kind=27;rw [h3];exact fl0;by_cases h4:t.kind=34;rw [h4];exact fl0;by_cases h5:t.kind=28;rw [h5];exact fl1;by_cases h6:t.kind=29;rw [h6];exact fl2;by_cases h7:t.kind=30;rw [h7];exact flv (by rw [decide_eq_decide];omega);by_cases h8:t.kind=31;rw [h8];exact fl1;by_cases h9:t.kind=32;rw [h9];exact fl2;by_cases h10:t.kind=33;rw [h10];exact fl1;by_cases h11:t.kind=35;rw [h11];exact fl1;by_cases h12:t.kind=36;rw [h12];exact fl1;by_cases h13:t.kind=37;rw [h13];exact fl1;by_cases h14:t.kind=38;rw [h14];refine Eq.trans ?_ (fl1 (X:=plainB t) (q:=memK [10]));rw [Zra];rfl;simp only [expK,anyK,Wdh h,Wdh h1,Wdh h2,Wdh h3,Wdh h4,Wdh h5,Wdh h6,Wdh h7,Wdh h8,Wdh h9,Wdh h10,Wdh h11,Wdh h12,Wdh h13,Wdh h14,Bool.or_false,cond_false,Bool.false_and]
def Vsc(t:Nd):Bool:=bif !decide (t.kind=10) || !plainB t then false else t.kids.all stmtB
def Xaf(t:Nd):Bool:=bif (!decide (t.kind=18) || !plainB t) || !lenK t 3 then false else (exprB (Zb t 0)&&blockB (Zb t 1))&&((blockB (Zb t 2) || ifB (Zb t 2)) || noneB (Zb t 2))
def refVar(t:Nd):Bool:=(((decide (t.kind=6)&&nameB t.text)&&lenK t 2)&&isTypeB (Zb t 0))&&(noneB (Zb t 1) || exprB (Zb t 1))
theorem Yke(a b p:Bool):((a&&p) || (b&&p))=((b || a)&&p):=by cases a <;> cases b <;> cases p <;> rfl
theorem Zdg(a b c p:Bool):(((a&&p) || (b&&p)) || (c&&p))=(((a || b) || c)&&p):=by cases a <;> cases b <;> cases c <;> cases p <;> rfl
theorem Yle(a b c:Bool):(bif !a || !b then false else c)=((a&&b)&&c):=by cases a <;> cases b <;> rfl
theorem Vxg(a b c d:Bool):(bif (!a || !b) || !c then false else d)=(((a&&b)&&c)&&d):=by cases a <;> cases b <;> cases c <;> rfl
theorem Zjb(t:Nd):noneB t=(decide (t.kind=9)&&permF t):=by
 rw [noneB];by_cases h:t.kind=9;rw [Jd,locB,textB',Yua,h,Bool.and_assoc];exact congrArg (true && ·) fl0;rw [Wdh h];rfl
theorem Vnb(t:Nd):isTypeB t=(typK t.kind&&permF t):=by
 rw [Jd,locB];unfold isTypeB textB' Yua;by_cases h:t.kind=8;rw [h];exact fl0;by_cases h1:t.kind=7;rw [h1];exact fl0;rw [Wdh h,Wdh h1,typK,anyK,anyK,Wdh h,Wdh h1];rfl
theorem Jgc(t:Nd):Vsc t=blockB t:=by
 rw [Vsc,blockB,Yle];by_cases h:t.kind=10
 rw [Jd,locB,textB',Yua,h,Bool.and_assoc];exact congrArg (true && ·) (by
  refine Eq.trans ?_ (Bool.and_assoc (plainB t) (everyB t stK) _).symm;rw [Xwb];rfl)
 rw [Wdh h];rfl
theorem Vie(t:Nd):Xaf t=ifB t:=by
 rw [Xaf,Vxg,show ifB t=(decide (t.kind=18)&&permF t) from rfl];by_cases h:t.kind=18
 rw [Jd,locB,textB',Yua,h,Bool.and_assoc,Bool.and_assoc];exact congrArg (true && ·) (by
  refine Eq.trans ?_ (Bool.and_assoc (plainB t) (kidsB t [expK,memK [10],memK [10,18,9]]) _).symm;rw [Zaf,Zra,Zjb,show memK [10,18,9] (Zb t 2).kind=((decide ((Zb t 2).kind=10) || decide ((Zb t 2).kind=18)) || decide ((Zb t 2).kind=9)) by simp [memK,Bool.or_assoc],← Zdg];rfl)
 rw [Wdh h];rfl
theorem Qvd(t:Nd):refVar t=varB t:=by
 rw [refVar,varB];by_cases h:t.kind=6
 rw [Jd,locB,textB',Yua,h,Bool.and_assoc,Bool.and_assoc,Bool.and_assoc];exact congrArg (true && ·) (by
  refine Eq.trans ?_ (Bool.and_assoc (nameB t.text) (kidsB t [typK,fun k=>expK k || memK [9] k]) _).symm;rw [Yje,Zra,Zjb,Vnb,show exprB (Zb t 1)=(expK (Zb t 1).kind&&permF (Zb t 1)) from rfl,Yke])
 rw [Wdh h];rfl
def Yab(t:Nd):Bool :=
 bif anyK [16,9] t.kind then stmtB t || noneB t
 else bif decide (t.kind=13) then stmtB t&&decide ((Zb t 0).kind=33)
 else bif decide (t.kind=12) then stmtB t&&decide ((Zb t 1).kind=33)
 else bif decide (t.kind=11) then stmtB t&&decide ((Zb t 0).kind=33)
 else false
theorem Qnc{t:Nd}(h:t.kind=13∨t.kind=11)(hp:permF t=true):t.kids.length=1:=by
 rw [Jd,locB,Bool.and_eq_true,Bool.and_eq_true] at hp;have hf:=hp.1.2;rcases h with h|h <;> rw [Yua,h] at hf
 have:kidsB t [memK [30,33]]=true:=hf;rw [kidsB,Bool.and_eq_true,decide_eq_true_eq] at this;exact this.1;have:kidsB t [expK]=true:=hf;rw [kidsB,Bool.and_eq_true,decide_eq_true_eq] at this;exact this.1
theorem Jpa{t:Nd}(h:t.kind=12∨t.kind=6)(hp:permF t=true):t.kids.length=2:=by
 rw [Jd,locB,Bool.and_eq_true,Bool.and_eq_true] at hp;have hf:=hp.1.2;rcases h with h|h <;> rw [Yua,h] at hf
 have:kidsB t [expK,expK]=true:=hf;rw [kidsB,Bool.and_eq_true,decide_eq_true_eq] at this;exact this.1;have:kidsB t [typK,fun k=>expK k || memK [9] k]=true:=hf;rw [kidsB,Bool.and_eq_true,decide_eq_true_eq] at this;exact this.1
theorem Yme{a b c:Bool}(h:a=true→b=true):(a&&c)=((b&&c)&&a):=by revert h;cases a <;> cases b <;> cases c <;> simp
theorem Wnd(t:Nd):Yab t=commF t:=by
 rw [Yab,commF,Zjb,stmtB];unfold Qsd;by_cases h:t.kind=16;rw [h];exact (show (permF t || false)=_ from Bool.or_false _);by_cases h1:t.kind=9;rw [h1];rfl;by_cases h2:t.kind=13;have hl:permF t=true→decide (((t.kids.length:Int)-1)=0)=true:=fun hp=>by rw [Qnc (.inl h2) hp];rfl
 rw [h2];exact (show _=((decide (((t.kids.length:Int)-1)=0)&&decide ((Zb t 0).kind=33))&&permF t) from Yme hl);by_cases h3:t.kind=12;have hl:permF t=true→decide (((t.kids.length:Int)-1)=1)=true:=fun hp=>by rw [Jpa (.inl h3) hp];rfl
 rw [h3];exact (show _=((decide (((t.kids.length:Int)-1)=1)&&decide ((Zb t 1).kind=33))&&permF t) from Yme hl);by_cases h4:t.kind=11;have hl:permF t=true→decide (((t.kids.length:Int)-1)=0)=true:=fun hp=>by rw [Qnc (.inr h4) hp];rfl
 rw [h4];exact (show _=((decide (((t.kids.length:Int)-1)=0)&&decide ((Zb t 0).kind=33))&&permF t) from Yme hl);simp only [anyK,Wdh h,Wdh h1,Wdh h2,Wdh h3,Wdh h4,Bool.or_false,cond_false,Bool.false_and]
def Qza(t:Nd):Bool:=(((decide (t.kind=23)&&plainB t)&&lenK t 2)&&commF (Zb t 0))&&blockB (Zb t 1)
theorem Zeg(t:Nd):Qza t=(decide (t.kind=23)&&permF t):=by
 rw [Qza];by_cases h:t.kind=23;rw [Jd,locB,textB',Yua,h];refine Eq.trans (b:=((plainB t&&((lenK t 2&&Qsd (Zb t 0))&&memK [10] (Zb t 1).kind))&&t.kids.all permF)) ?_ rfl;rw [Zra,show ((plainB t&&((lenK t 2&&Qsd (Zb t 0))&&decide ((Zb t 1).kind=10)))&&t.kids.all permF)=((plainB t&&(Qsd (Zb t 0)&&decide ((Zb t 1).kind=10)))&&(lenK t 2&&t.kids.all permF)) by ac_rfl,Jxg,commF,blockB];show (((plainB t&&lenK t 2)&&_)&&_)=_;ac_rfl;rw [Wdh h];rfl
def refSelect(t:Nd):Bool:=t.kids.all Qza&&plainB t
theorem Vtc{t:Nd}(h:t.kind=22):refSelect t=permF t:=by
 rw [Jd,locB,textB',Yua,h];refine Eq.trans (b:=((plainB t&&everyB t (memK [23]))&&t.kids.all permF)) ?_ rfl;rw [Bool.and_assoc,Xwb,refSelect,Bool.and_comm];congr 2;funext k;rw [Zeg,Zra]
def refStmt(t:Nd):Bool :=
 bif decide (t.kind=6) then varB t
 else bif decide (t.kind=10) then blockB t
 else bif decide (t.kind=18) then ifB t
 else bif decide (t.kind=22) then permF t
 else bif decide (t.kind=11) then (nameB t.text&&lenK t 1)&&exprB (Zb t 0)
 else bif anyK [12,16] t.kind then (plainB t&&lenK t 2)&&t.kids.all exprB
 else bif decide (t.kind=13) then (plainB t&&lenK t 1)&&(kindB (Zb t 0) 30 || kindB (Zb t 0) 33)
 else bif anyK [14,15] t.kind then (plainB t&&lenK t 1)&&kindB (Zb t 0) 30
 else bif anyK [17,21] t.kind then (plainB t&&lenK t 1)&&exprB (Zb t 0)
 else bif decide (t.kind=20) then (plainB t&&decide ((t.kids.length:Int)≤1))&&t.kids.all exprB
 else bif decide (t.kind=19) then ((plainB t&&lenK t 2)&&(noneB (Zb t 0) || exprB (Zb t 0)))&&blockB (Zb t 1)
 else false
theorem Wod(t:Nd):kindB t 30=(memK [30] t.kind&&permF t):=by
 rw [kindB,Zra,exprB];by_cases h:t.kind=30;rw [h];rfl;rw [Wdh h];rfl
theorem Zfg(t:Nd):kindB t 33=(decide (t.kind=33)&&permF t):=by
 rw [kindB,exprB];by_cases h:t.kind=33;rw [h];rfl;rw [Wdh h];rfl
theorem Zgg(t:Nd):(kindB t 30 || kindB t 33)=(memK [30,33] t.kind&&permF t):=by
 rw [Wod,Zfg,Yke,Zra];congr 1;simp [memK,Bool.or_comm]
theorem Vyg{t:Nd}:(decide ((t.kids.length:Int)≤1)&&t.kids.all exprB)=((lenK t 0 || kidsB t [expK])&&t.kids.all permF):=by
 by_cases h:t.kids.length=0;rw [List.length_eq_zero_iff.1 h,show lenK t 0=true by rw [lenK,decide_eq_true_eq];omega];rfl;by_cases h1:t.kids.length=1;rw [show lenK t 0=false from Jpb 0 h,Bool.false_or,Jze,show decide ((t.kids.length:Int)≤1)=lenK t 1 by rw [lenK,decide_eq_decide];omega,all_1];rfl;rw [show lenK t 0=false from Jpb 0 h,Yhd h1,Wdh (by omega)];rfl
theorem Je(t:Nd):refStmt t=stmtB t:=by
 rw [stmtB];by_cases h:t.kind=6;rw [refStmt,varB,h];rfl;by_cases h1:t.kind=10;rw [refStmt,blockB,h1];rfl;by_cases h2:t.kind=18;rw [refStmt,ifB,h2];rfl;by_cases h3:t.kind=22;rw [refStmt,h3];rfl;rw [Jd,locB];unfold refStmt textB' Yua;by_cases h4:t.kind=11;rw [h4];exact fl1;by_cases h5:t.kind=12;rw [h5];exact fl2;by_cases h6:t.kind=16;rw [h6];exact fl2;by_cases h7:t.kind=13;rw [h7];refine Eq.trans ?_ (fl1 (X:=plainB t) (q:=memK [30,33]));rw [← Zgg];rfl;by_cases h8:t.kind=14;rw [h8];refine Eq.trans ?_ (fl1 (X:=plainB t) (q:=memK [30]));rw [← Wod];rfl;by_cases h9:t.kind=15;rw [h9];refine Eq.trans ?_ (fl1 (X:=plainB t) (q:=memK [30]));rw [← Wod];rfl;by_cases h10:t.kind=17;rw [h10];exact fl1;by_cases h11:t.kind=21;rw [h11];exact fl1;by_cases h12:t.kind=20;rw [h12];refine Eq.trans (b:=(plainB t&&decide ((t.kids.length:Int)≤1))&&t.kids.all exprB) rfl ?_;rw [Bool.and_assoc,Vyg,← Bool.and_assoc];rfl;by_cases h13:t.kind=19;rw [h13];refine Eq.trans (b:=((plainB t&&lenK t 2)&&(noneB (Zb t 0) || exprB (Zb t 0)))&&blockB (Zb t 1)) O (Eq.trans (b:=((plainB t&&kidsB t [fun k=>expK k || memK [9] k,memK [10]])&&t.kids.all permF)) ?_ O);rw [Bool.and_assoc (plainB t) (kidsB t _),Yje,Zra,Zra,Zjb,show exprB (Zb t 0)=(expK (Zb t 0).kind&&permF (Zb t 0)) from rfl,Yke,blockB];ac_rfl;simp only [stK,anyK,Wdh h,Wdh h1,Wdh h2,Wdh h3,Wdh h4,Wdh h5,Wdh h6,Wdh h7,Wdh h8,Wdh h9,Wdh h10,Wdh h11,Wdh h12,Wdh h13,Bool.or_false,cond_false,Bool.false_and]
structure ROk (t:Nd):Prop where
  ex:∀ (p:Option Addr) (c:Nat) (D:Nat→Prop) (w:World),Kd w D t.kids (.slice p t.kids.length c)→Ret PP Ywc #[ndV t (.slice p t.kids.length c)] w fun r w'=>r = .bool (exprB t)∧G w w'
  bl:∀ (p:Option Addr) (c:Nat) (D:Nat→Prop) (w:World),Kd w D t.kids (.slice p t.kids.length c)→Ret PP Qrb #[ndV t (.slice p t.kids.length c)] w fun r w'=>r = .bool (blockB t)∧G w w'
  st:∀ (p:Option Addr) (c:Nat) (D:Nat→Prop) (w:World),Kd w D t.kids (.slice p t.kids.length c)→Ret PP Yxc #[ndV t (.slice p t.kids.length c)] w fun r w'=>r = .bool (stmtB t)∧G w w'
  fi:∀ (p:Option Addr) (c:Nat) (D:Nat→Prop) (w:World),Kd w D t.kids (.slice p t.kids.length c)→Ret PP Qzc #[ndV t (.slice p t.kids.length c)] w fun r w'=>r = .bool (ifB t)∧G w w'
  cm:∀ (p:Option Addr) (c:Nat) (D:Nat→Prop) (w:World),Kd w D t.kids (.slice p t.kids.length c)→Ret PP Yzc #[ndV t (.slice p t.kids.length c)] w fun r w'=>r = .bool (commF t)∧G w w'
def Blw(t:Nd):Prop:=∀ k,count k<count t→ROk k
theorem Blw.kid{t:Nd}(ih:Blw t){i:Nat}(h:i<t.kids.length):ROk (Zb t i):=by
 refine ih _ ?_;rw [Wc h];have:=Jp (List.getElem_mem h);omega
theorem Xjc{w:World}{D:Nat→Prop}{t:Nd}{p:Option Addr}{c:Nat}(hk:Kd w D t.kids (.slice p t.kids.length c))(ih:Blw t)(i:Nat):∃ p' c',i<t.kids.length→p=some ⟨pb p,po p,none⟩∧RowAt w (pb p) (po p+i*9) (ndCells (Zb t i) (.slice p' (Zb t i).kids.length c'))∧Kd w D (Zb t i).kids (.slice p' (Zb t i).kids.length c')∧ROk (Zb t i):=by
 obtain ⟨p',c',h⟩:=Yyf hk i;exact ⟨p',c',fun hi=>⟨(h hi).1,(h hi).2.1,(h hi).2.2,ih.kid hi⟩⟩
theorem Zlc(t:Nd)(p:Option Addr)(c:Nat)(w:World):Ret PP Upd #[ndV t (.slice p t.kids.length c)] w fun r w'=>r = .bool (noneB t)∧G w w':=by
 have g:=G.refl w;refine WK 17 [0] Jvc ?_;refine BM fun _ _ _ _ g E=>?_;refine RTN ?_;exact ⟨rfl,g⟩
theorem Jqb(l:List Nd)(p:Option Addr)(c:Nat)(D:Nat→Prop)(w:World)(hk:Kd w D l (.slice p l.length c))(hr:∀ k∈l,ROk k)(hln:l.length≤1000000):Ret PP Wac #[.slice p l.length c] w fun r w'=>r = .bool (l.all exprB)∧G w w':=by
 have g:=G.refl w;obtain ⟨p',c',hpe,_,hks⟩:=hk;injection hpe with hpe _ hce;subst hpe hce;refine WK 16 [0] Qyb ?_;refine AU ?_;refine Jn (fun (i:Nat) u1=>(i≤l.length∧∀ j,(h:j<l.length)→j<i→exprB l[j]=true)∧G w u1) [(0,True,_)] (fun (i:Nat)=>[(3,True,.int .i64 i)]) (fun (i:Nat)=>l.length-i) (0) ⟨⟨Nat.zero_le _,fun j _ hj=>absurd hj (Nat.not_lt_zero j)⟩,G.refl _⟩ (Za O (Za O (Zo _))) ?_;rintro i u1 ⟨hI1,gl1⟩;have g:=g.trans gl1;refine Zi (Zi (Zk (Zp O (Zp O (Xha Zc O (Xna O O (Ze (kq (Wn O (fun h1=>?_) (fun h1=>?_))))))))));replace h1:i<l.length:=by simp only [decide_eq_true_eq] at h1;omega
 obtain ⟨b,o,rfl,hD,xs,hR,hX⟩:=hks (by omega);obtain ⟨p',c',hcell,hkid⟩:=Zgb hR hX h1;refine Yb (kq (Zi (Yo (Zi (Zk (Zp O (Zp O (Qpa Zc O O (by omega) (Ve Zh O O (hcell.grow g) (Vg O (Yi Jr Vc (aqc O aq0) O) ((hr _ (List.getElem_mem h1)).ex _ _ D _ (hkid.grow g)) (fun w14 g14=>?_)))))))))));have g:=g.trans g14;have gl1:=gl1.trans (g14);refine IF (fun h2=>?_) fun h2=>?_;(try simp only [bsimp] at h2);refine RTN ?_;refine ⟨Wfh ?_,g⟩;rw [eq_comm,List.all_eq_false];exact ⟨_,List.getElem_mem h1,by simpa using h2⟩;refine AU ?_;refine SK [3,0] ?_;refine Ze (fun a ha=>?_);refine ⟨i+1,ha,⟨⟨h1,fun j h hj=>?_⟩,gl1⟩,by omega⟩;by_cases e:j=i;subst e;simpa using h2;exact hI1.2 j h (by omega);refine RTN ?_;refine ⟨Wfh ?_,g⟩;rw [eq_comm,List.all_eq_true];intro x hx;obtain ⟨j,hj,rfl⟩:=List.getElem_of_mem hx;exact hI1.2 j hj (by simp only [decide_eq_false_iff_not] at h1;omega)
theorem Yne(t:Nd)(n:Int)(p:Option Addr)(c:Nat)(D:Nat→Prop)(w:World)(hk:Kd w D t.kids (.slice p t.kids.length c))(h:ROk t):Ret PP Wre #[ndV t (.slice p t.kids.length c),.int .i64 n] w fun r w'=>r = .bool (kindB t n)∧G w w':=by
 have g:=G.refl w;refine WK 13 [0,1] Utd ?_;refine BM fun _ _ _ _ g E=>?_;refine AU ?_;refine CG (fun hc=>h.ex _ _ D _ (hk.grow g)) (fun w11 g11=>?_);have g:=g.trans g11;replace E:=E.grow g11;refine RTN ?_;exact ⟨rfl,g⟩
theorem Vjf(t:Nd)(p:Option Addr)(c:Nat)(D:Nat→Prop)(w:World)(hk:Kd w D t.kids (.slice p t.kids.length c))(ih:Blw t)(hln:t.kids.length≤1000000):Ret PP Ywc #[ndV t (.slice p t.kids.length c)] w fun r w'=>r = .bool (exprB t)∧G w w':=by
 rw [← Zsa];have g:=G.refl w;obtain ⟨p0,c0,h0x⟩:=Xjc hk ih 0;have hr:∀ k∈t.kids,ROk k:=fun k hk=>ih k (Jp hk);refine WK 165 [0] Jzc ?_;refine BM fun _ _ _ _ g E=>?_;refine IF (fun h1=>?_) fun h1=>?_;(try simp only [bsimp] at h1);refine RTN ?_;refine ⟨Wfh ?_,g⟩;unfold Qv;simp only [anyK,h1,cond_true,cond_false] <;> rfl
 refine IF (fun h2=>?_) fun h2=>?_;(try simp only [bsimp] at h2);refine RTN ?_;refine ⟨Wfh ?_,g⟩;unfold Qv;simp only [anyK,h1,h2,cond_true,cond_false] <;> rfl
 refine IF (fun h3=>?_) fun h3=>?_;(try simp only [bsimp] at h3);refine RTN ?_;refine ⟨Wfh ?_,g⟩;unfold Qv;simp only [anyK,h1,h2,h3,cond_true,cond_false] <;> rfl
 refine AU ?_;refine' OR [1,2,3,4,12] (fun hb4=>?y4) (kq ?n4)
 case y4 =>
  refine AU ?_;refine SK [49,1,2,3,4,12] ?_;exact Ze knr
 case n4 =>
  refine IF (fun h5=>?_) fun h5=>?_;(try simp only [bsimp] at h5);refine AU ?_;refine CP (Vya _ _) (fun w54 g54=>?_);have g:=g.trans g54;replace E:=E.grow g54;refine RTN ?_;refine ⟨Wfh ?_,g⟩;unfold Qv;simp only [anyK,h1,h2,h3,h5,cond_true,cond_false] <;> rfl
  refine IF (fun h6=>?_) fun h6=>?_;(try simp only [bsimp] at h6);refine Zi (Zk (Yf Yn O (Yp Yg O (E.g0.at_ O) (Vg O (Yi Zvb Vc (aqc O aq0) O) (Vya _ _) (fun w63 g63=>?_)))));have g:=g.trans g63;replace E:=E.grow g63;refine Zp O (Zj O O O (fun _=>Zl (Zd O)) (Zj O O O (fun _=>Zpa (Zm O id) Xg) (Zq O (fun _=>Yd (Zd O) (Zm O id)) (Zp O (Zj O O O (fun _=>Zn Zg (Zd O)) (Yk O O O (Zw Zf (Zm O id) (fun _=>E.g0.at_ O)) (Zj O O O (fun _=>Xb Zc (Zm O id) Xg (fun hc=>by (have hz:=hc.2;first|(unfold lenK at hz;simp at hz;omega)|(simp at hz;omega))) (fun hc=>(h0x (by (have hz:=hc.2;first|(unfold lenK at hz;simp at hz;omega)|(simp at hz;omega)))).1)) (Yk O O O (Zy Zh (Zm O id) O (fun hc=>(h0x (by (have hz:=hc.2;first|(unfold lenK at hz;simp at hz;omega)|(simp at hz;omega)))).2.1.grow g)) (Xt O O O (fun _=>(Yi Jr Vc (Ym (Zm O id) (Xh)) O)) (fun hc=>(h0x (by (have hz:=hc.2;first|(unfold lenK at hz;simp at hz;omega)|(simp at hz;omega)))).2.2.2.ex _ _ D _ ((h0x (by (have hz:=hc.2;first|(unfold lenK at hz;simp at hz;omega)|(simp at hz;omega)))).2.2.1.grow g)) (fun w73 g73=>?_))))))))));have g:=g.trans g73;replace E:=E.grow g73;refine RTN ?_;refine ⟨Wfh ?_,g⟩;unfold Qv;simp only [anyK,h1,h2,h3,h5,h6,cond_true,cond_false] <;> rfl
  refine IF (fun h7=>?_) fun h7=>?_;(try simp only [bsimp] at h7);refine AU ?_;refine CG (fun hc=>Jqb _ _ _ D _ (hk.grow g) hr hln) (fun w85 g85=>?_);have g:=g.trans g85;replace E:=E.grow g85;refine RTN ?_;refine ⟨Wfh ?_,g⟩;unfold Qv;simp only [anyK,h1,h2,h3,h5,h6,h7,cond_true,cond_false] <;> rfl
  refine IF (fun h8=>?_) fun h8=>?_;(try simp only [bsimp] at h8);refine Zi (Zk (Zp O (Zp O (Zj O O O (fun _=>Zl (Zd O)) (Zj O O O (fun _=>Xpe (Zm O id) Xg) (Zq O (fun _=>Yd (Zd O) (Zm O id)) (Zp O (Zj O O O (fun _=>Zn Zg (Zd O)) (Yk O O O (Zw Zf (Zm O id) (fun _=>E.g0.at_ O)) (Xt O O O (fun _=>(Yi Vba Vc (Ym (Zm O id) (Xh)) O)) (fun hc=>Jqb _ _ _ D _ (hk.grow g) hr hln) (fun w97 g97=>?_)))))))))));have g:=g.trans g97;replace E:=E.grow g97;refine Zq O (fun _=>Yd (Zd O) (Zm O id)) (Yr O (Ze (kq (Xe (Up O O ?_)))));refine ⟨Wfh ?_,g⟩;unfold Qv;simp only [anyK,h1,h2,h3,h5,h6,h7,h8,cond_true,cond_false] <;> rfl
  refine Zi (Zk (Zya O O (Yr O (Ze (kq (Wn O (fun h9=>?_) (fun h9=>?_)))))));(try simp only [bsimp] at h9);refine Zi (Zk (Yf Yn O (Yp Yg O (E.g0.at_ O) (Jvd O O (Zp O (Zj O O O (fun _=>Zn Yn (Zd O)) (Yk O O O (Zw Yg (Zm O id) (fun _=>E.g0.at_ O)) (Zj O O O (fun _=>Xnc (Zm O id) Xg) (Zq O (fun _=>Vd (Zd O) (Zm O id)) (Zp O (Zj O O O (fun _=>Zl (Zd O)) (Zj O O O (fun _=>Zpa (Zm O id) Xg) (Zq O (fun _=>Yd (Zd O) (Zm O id)) (Zp O (Zj O O O (fun _=>Zn Zg (Zd O)) (?_))))))))))))))));refine Yk O O O (Zw Zf (Zm O id) (fun _=>E.g0.at_ O)) (Zj O O O (fun _=>Xb Zc (Zm O id) Xg (fun hc=>by (have hz:=hc.2;first|(unfold lenK at hz;simp at hz;omega)|(simp at hz;omega))) (fun hc=>(h0x (by (have hz:=hc.2;first|(unfold lenK at hz;simp at hz;omega)|(simp at hz;omega)))).1)) (Yk O O O (Zy Zh (Zm O id) O (fun hc=>(h0x (by (have hz:=hc.2;first|(unfold lenK at hz;simp at hz;omega)|(simp at hz;omega)))).2.1.grow g)) (Xt O O O (fun _=>(Yi Jr Vc (Ym (Zm O id) (Xh)) O)) (fun hc=>(h0x (by (have hz:=hc.2;first|(unfold lenK at hz;simp at hz;omega)|(simp at hz;omega)))).2.2.2.ex _ _ D _ ((h0x (by (have hz:=hc.2;first|(unfold lenK at hz;simp at hz;omega)|(simp at hz;omega)))).2.2.1.grow g)) (fun w118 g118=>?_))));have g:=g.trans g118;replace E:=E.grow g118;refine RTN ?_;refine ⟨Wfh ?_,g⟩;unfold Qv;simp only [anyK,h1,h2,h3,h5,h6,h7,h8,h9,cond_true,cond_false] <;> rfl
  refine IF (fun h10=>?_) fun h10=>?_;(try simp only [bsimp] at h10);refine AU ?_;refine CP (Juf _ _) (fun w124 g124=>?_);have g:=g.trans g124;replace E:=E.grow g124;refine AU ?_;refine CG (fun hc=>Jqb _ _ _ D _ (hk.grow g) hr hln) (fun w132 g132=>?_);have g:=g.trans g132;replace E:=E.grow g132;refine RTN ?_;refine ⟨Wfh ?_,g⟩;unfold Qv;simp only [anyK,h1,h2,h3,h5,h6,h7,h8,h9,h10,cond_true,cond_false] <;> rfl
  refine AU ?_;refine' OR [1,2,3,4,12] (fun hb11=>?y11) (kq ?n11)
  case y11 =>
   refine AU ?_;refine' OR [1,2,3,4,12] (fun hb12=>?y12) knr
   case y12 =>
    refine AU ?_;refine' OR [1,2,3,4,12] (fun hb13=>?y13) knr
    case y13 =>
     refine AU ?_;refine SK [134,1,2,3,4,12] ?_;exact Ze knr
  case n11 =>
   refine Wn O (fun h14=>?_) (fun h14=>?_);(try simp only [bsimp] at h14);refine Zi (Zk (Zp O (Zp O (Zj O O O (fun _=>Zl (Zd O)) (Zj O O O (fun _=>Zpa (Zm O id) Xg) (Zq O (fun _=>Yd (Zd O) (Zm O id)) (Zp O (Zj O O O (fun _=>Zn Zg (Zd O)) (Yk O O O (Zw Zf (Zm O id) (fun _=>E.g0.at_ O)) (Zj O O O (fun _=>Xb Zc (Zm O id) Xg (fun hc=>by (have hz:=hc.2;first|(unfold lenK at hz;simp at hz;omega)|(simp at hz;omega))) (fun hc=>(h0x (by (have hz:=hc.2;first|(unfold lenK at hz;simp at hz;omega)|(simp at hz;omega)))).1)) (Yk O O O (Zy Zh (Zm O id) O (fun hc=>(h0x (by (have hz:=hc.2;first|(unfold lenK at hz;simp at hz;omega)|(simp at hz;omega)))).2.1.grow g)) (Xt O O O (fun _=>(Yi Jr Vc (Ym (Zm O id) (Xh)) O)) (fun hc=>(h0x (by (have hz:=hc.2;first|(unfold lenK at hz;simp at hz;omega)|(simp at hz;omega)))).2.2.2.ex _ _ D _ ((h0x (by (have hz:=hc.2;first|(unfold lenK at hz;simp at hz;omega)|(simp at hz;omega)))).2.2.1.grow g)) (fun w149 g149=>?_)))))))))))));have g:=g.trans g149;replace E:=E.grow g149;refine RTN ?_;refine ⟨Wfh ?_,g⟩;unfold Qv;simp only [anyK,h1,h2,h3,h5,h6,h7,h8,h9,h10,h14,cond_true,cond_false] <;> rfl
   refine Zi (Zk (Zya O O (Yr O (Ze (kq (Wn O (fun h15=>?_) (fun h15=>?_)))))));(try simp only [bsimp] at h15);refine Zi (Zk (Zp O (Zp O (Zj O O O (fun _=>Zl (Zd O)) (Zj O O O (fun _=>Zpa (Zm O id) Xg) (Zq O (fun _=>Yd (Zd O) (Zm O id)) (Zp O (Zj O O O (fun _=>Zn Zg (Zd O)) (Yk O O O (Zw Zf (Zm O id) (fun _=>E.g0.at_ O)) (Zj O O O (fun _=>Xb Zc (Zm O id) Xg (fun hc=>by (have hz:=hc.2;first|(unfold lenK at hz;simp at hz;omega)|(simp at hz;omega))) (fun hc=>(h0x (by (have hz:=hc.2;first|(unfold lenK at hz;simp at hz;omega)|(simp at hz;omega)))).1)) (Yk O O O (Zy Zh (Zm O id) O (fun hc=>(h0x (by (have hz:=hc.2;first|(unfold lenK at hz;simp at hz;omega)|(simp at hz;omega)))).2.1.grow g)) (Xt O O O (fun _=>(Yi Yka Vc (Ym (Zm O id) (Xh)) O)) (fun hc=>(h0x (by (have hz:=hc.2;first|(unfold lenK at hz;simp at hz;omega)|(simp at hz;omega)))).2.2.2.bl _ _ D _ ((h0x (by (have hz:=hc.2;first|(unfold lenK at hz;simp at hz;omega)|(simp at hz;omega)))).2.2.1.grow g)) (fun w163 g163=>?_)))))))))))));have g:=g.trans g163;replace E:=E.grow g163;refine RTN ?_;refine ⟨Wfh ?_,g⟩;unfold Qv;simp only [anyK,h1,h2,h3,h5,h6,h7,h8,h9,h10,h14,h15,cond_true,cond_false] <;> rfl
   refine RTN ?_;refine ⟨Wfh ?_,g⟩;unfold Qv;simp only [anyK,h1,h2,h3,h5,h6,h7,h8,h9,h10,h14,h15,cond_true,cond_false] <;> rfl
theorem Wpd(t:Nd)(p:Option Addr)(c:Nat)(D:Nat→Prop)(w:World)(hk:Kd w D t.kids (.slice p t.kids.length c))(ih:Blw t)(hln:t.kids.length≤1000000):Ret PP Qrb #[ndV t (.slice p t.kids.length c)] w fun r w'=>r = .bool (blockB t)∧G w w':=by
 rw [← Jgc,Vsc];have g:=G.refl w;refine WK 26 [0] Uwc ?_;refine BM fun _ w1 _ _ g E=>?_;refine IF (fun h1=>?_) fun h1=>?_;replace h1:(!decide (t.kind=10) || !plainB t)=true:=h1;refine RTN ?_;refine ⟨Wfh ?_,g⟩;rw [h1];rfl;replace h1:(!decide (t.kind=10) || !plainB t)=false:=h1;refine AU ?_;refine Jn (fun (i:Nat) u1=>(i≤t.kids.length∧∀ j,(h:j<t.kids.length)→j<i→stmtB t.kids[j]=true)∧G w1 u1) [(1,True,_)] (fun (i:Nat)=>[(3,True,.int .i64 i)]) (fun (i:Nat)=>t.kids.length-i) (0) ⟨⟨Nat.zero_le _,fun j _ hj=>absurd hj (Nat.not_lt_zero j)⟩,G.refl _⟩ (Za O (Za O (Zo _))) ?_;rintro i u1 ⟨hI1,gl1⟩;have g:=g.trans gl1;replace E:=E.grow gl1;refine IF (fun h2=>?_) fun h2=>?_;replace h2:i<t.kids.length:=by simp only [decide_eq_true_eq] at h2;omega
 obtain ⟨hpe,p2,c2,hcell,hkid⟩:=Yl hk h2;have hr:=ih.kid h2;refine AU ?_;refine CP (hr.st _ _ D _ (hkid.grow g)) (fun w24 g24=>?_);have g:=g.trans g24;have gl1:=gl1.trans (g24);replace E:=E.grow g24;refine IF (fun h3=>?_) fun h3=>?_;(try simp only [bsimp] at h3);refine RTN ?_;refine ⟨Wfh ?_,g⟩;rw [h1,cond_false,eq_comm,List.all_eq_false];exact ⟨_,List.getElem_mem h2,by rw [← Wc h2];simpa using h3⟩;refine AU ?_;refine SK [3,1] ?_;refine Ze (fun a ha=>?_);refine ⟨i+1,ha,⟨⟨h2,fun j h hj=>?_⟩,gl1⟩,by omega⟩;by_cases e:j=i;subst e;rw [← Wc h2];simpa using h3;exact hI1.2 j h (by omega);refine RTN ?_;refine ⟨Wfh ?_,g⟩;rw [h1,cond_false,eq_comm,List.all_eq_true];intro x hx;obtain ⟨j,hj,rfl⟩:=List.getElem_of_mem hx;exact hI1.2 j hj (by simp only [decide_eq_false_iff_not] at h2;omega)
theorem Xbf(t:Nd)(p:Option Addr)(c:Nat)(D:Nat→Prop)(w:World)(hk:Kd w D t.kids (.slice p t.kids.length c))(ih:Blw t):Ret PP Qzc #[ndV t (.slice p t.kids.length c)] w fun r w'=>r = .bool (ifB t)∧G w w':=by
 rw [← Vie,Xaf];have g:=G.refl w;refine Zca (m:=46) Usd O O [(0,True,_)] (Za O (Zo _)) ?_;refine Zi (Zk (BM fun _ _ _ _ g E=>?_));refine Yr O (Ze (kq (Zi (Zi (Zk (Yf Xl O (Yp Yh O (E.g0.at_ O) (Yyd O O (Zp O (Zj O O O (fun _=>Zn Yn (Zd O)) (Yk O O O (Zw Yg (Zm O id) (fun _=>E.g0.at_ O)) (Zj O O O (fun _=>Que (Zm O id) Xg) (Zq O (fun _=>Vd (Zd O) (Zm O id)) (Zp O (Zj O O O (fun _=>Zn Zg (Zd O)) (Yk O O O (Zw Zf (Zm O id) (fun _=>E.g0.at_ O)) (?_)))))))))))))))));refine Zj O O O (fun _=>Vna Zc (Zm O id)) (Zj O O O (fun _=>Qvc (Zm O id) Xg) (Zq O (fun _=>Vd (Zd O) (Zm O id)) (Ze (kq (Wn O (fun h1=>?_) (fun h1=>?_))))));replace h1:((!decide (t.kind=18) || !plainB t) || !lenK t 3)=true:=h1;refine Zi (Zk (Yr O (Ze (kq (Xe (Up O O ?_))))));refine ⟨Wfh ?_,g⟩;rw [h1];rfl;replace h1:((!decide (t.kind=18) || !plainB t) || !lenK t 3)=false:=h1;have hl3:t.kids.length=3:=by simp only [lenK,Bool.or_eq_false_iff,Bool.not_eq_false',decide_eq_true_eq] at h1;omega
 obtain ⟨hpe,p0,c0,hcell0,hkid0⟩:=Yl hk (i:=0) (by omega);obtain ⟨_,p1,c1,hcell1,hkid1⟩:=Yl hk (i:=1) (by omega);obtain ⟨_,p2,c2,hcell2,hkid2⟩:=Yl hk (i:=2) (by omega);have hr0:=ih.kid (i:=0) (by omega);have hr1:=ih.kid (i:=1) (by omega);have hr2:=ih.kid (i:=2) (by omega);refine Yb (kq (Zi (Zk (Yf Zg O (Yp Zf O (E.g0.at_ O) (Ji Zc O O (by omega) hpe (Ve Zh O O (hcell2.grow g) (AN fun _ _ _ _ g E=>?_))))))));refine AS fun _ _ _ g E=>?_;refine Ze (kq (Zi (Zk (Yf Zg O (Yp Zf O (E.g1.at_ O) (Ji Zc O O (by omega) hpe (Ve Zh O O (hcell0.grow g) (Vg O (Yi Jr Vc (aqc O aq0) O) (hr0.ex _ _ D _ (hkid0.grow g)) (fun w26 g26=>?_)))))))));have g:=g.trans g26;replace E:=E.grow g26;refine Zp O (Zj O O O (fun _=>Zn Zg (Zd O)) (Yk O O O (Zw Zf (Zm O id) (fun _=>E.g1.at_ O)) (Zj O O O (fun _=>Xb Zc (Zm O id) Xg (fun _=>by omega) (fun _=>hpe)) (Yk O O O (Zy Zh (Zm O id) O (fun _=>hcell1.grow g)) (Xt O O O (fun _=>(Yi Yka Vc (Ym (Zm O id) (Xh)) O)) (fun hc=>hr1.bl _ _ D _ (hkid1.grow g)) (fun w32 g32=>?_))))));have g:=g.trans g32;replace E:=E.grow g32;refine AU ?_;refine CG (fun hc=>hr2.bl _ _ D _ (hkid2.grow g)) (fun w36 g36=>?_);have g:=g.trans g36;replace E:=E.grow g36;refine AU ?_;refine CG (fun hc=>hr2.fi _ _ D _ (hkid2.grow g)) (fun w39 g39=>?_);have g:=g.trans g39;replace E:=E.grow g39;refine AU ?_;refine CG (fun hc=>Zlc _ _ _ _) (fun w43 g43=>?_);have g:=g.trans g43;replace E:=E.grow g43;refine RTN ?_;refine ⟨Wfh ?_,g⟩;rw [h1];rfl
theorem Vje(t:Nd)(p:Option Addr)(c:Nat)(D:Nat→Prop)(w:World)(hk:Kd w D t.kids (.slice p t.kids.length c))(ih:Blw t):Ret PP Zke #[ndV t (.slice p t.kids.length c)] w fun r w'=>r = .bool (varB t)∧G w w':=by
 rw [← Qvd,refVar];have g:=G.refl w;obtain ⟨p0,c0,h0x⟩:=Xjc hk ih 0;obtain ⟨p1,c1,h1x⟩:=Xjc hk ih 1;refine WK 38 [0] Xld ?_;refine BM fun _ _ _ _ g E=>?_;refine AU ?_;refine CG (fun hc=>Vya _ _) (fun w9 g9=>?_);have g:=g.trans g9;replace E:=E.grow g9;refine AU ?_;refine Zj O O O (fun _=>Xb Zc (Zm O id) Xg (fun hc=>by (have hz:=hc.2;first|(unfold lenK at hz;simp at hz;omega)|(simp at hz;omega))) (fun hc=>(h0x (by (have hz:=hc.2;first|(unfold lenK at hz;simp at hz;omega)|(simp at hz;omega)))).1)) (Yk O O O (Zy Zh (Zm O id) O (fun hc=>(h0x (by (have hz:=hc.2;first|(unfold lenK at hz;simp at hz;omega)|(simp at hz;omega)))).2.1.grow g)) (CG (fun hc=>Zic _ _ _ _) (fun w22 g22=>?_)));have g:=g.trans g22;replace E:=E.grow g22;refine Zq O (fun _=>Yd (Zd O) (Zm O id)) (Zp O (Zj O O O (fun _=>Zn Zg (Zd O)) (Yk O O O (Zw Zf (Zm O id) (fun _=>E.g0.at_ O)) (Zj O O O (fun _=>Xb Zc (Zm O id) Xg (fun hc=>by (have hz:=hc.2;first|(unfold lenK at hz;simp at hz;omega)|(simp at hz;omega))) (fun hc=>(h1x (by (have hz:=hc.2;first|(unfold lenK at hz;simp at hz;omega)|(simp at hz;omega)))).1)) (Yk O O O (Zy Zh (Zm O id) O (fun hc=>(h1x (by (have hz:=hc.2;first|(unfold lenK at hz;simp at hz;omega)|(simp at hz;omega)))).2.1.grow g)) (Xt O O O (fun _=>(Yi Ymb Vc (Ym (Zm O id) (Xh)) O)) (fun hc=>Zlc _ _ _ _) (fun w29 g29=>?_)))))));have g:=g.trans g29;replace E:=E.grow g29
 refine Zj O O O (fun _=>Zl (Zm O id)) (Zj O O O (fun _=>Zn Zg (Zd O)) (Yk O O O (Zw Zf (Zm O id) (fun _=>E.g0.at_ O)) (Zj O O O (fun _=>Xb Zc (Zm O id) Xg (fun hc=>by (have hz:=hc.1.2;first|(unfold lenK at hz;simp at hz;omega)|(simp at hz;omega))) (fun hc=>(h1x (by (have hz:=hc.1.2;first|(unfold lenK at hz;simp at hz;omega)|(simp at hz;omega)))).1)) (Yk O O O (Zy Zh (Zm O id) O (fun hc=>(h1x (by (have hz:=hc.1.2;first|(unfold lenK at hz;simp at hz;omega)|(simp at hz;omega)))).2.1.grow g)) (Xt O O O (fun _=>(Yi Jr Vc (Ym (Zm O id) (Xh)) O)) (fun hc=>(h1x (by (have hz:=hc.1.2;first|(unfold lenK at hz;simp at hz;omega)|(simp at hz;omega)))).2.2.2.ex _ _ D _ ((h1x (by (have hz:=hc.1.2;first|(unfold lenK at hz;simp at hz;omega)|(simp at hz;omega)))).2.2.1.grow g)) (fun w35 g35=>?_))))));have g:=g.trans g35;replace E:=E.grow g35;refine RTN ?_;exact ⟨rfl,g⟩
theorem Jk{t:Nd}{i:Nat}(h:i<t.kids.length):count (Zb t i)<count t:=by
 rw [Wc h];have:=Jp (List.getElem_mem h);omega
theorem Qwd{t:Nd}(ih:Blw t){i:Nat}(h:i<t.kids.length):Blw (Zb t i):=fun k hk=>ih k (Nat.lt_trans hk (Jk h))
theorem Qxd(t:Nd):(!Qza t)=((((!decide (t.kind=23) || !plainB t) || !lenK t 2) || !commF (Zb t 0)) || !blockB (Zb t 1)):=by
 rw [Qza];cases decide (t.kind=23) <;> cases plainB t <;> cases lenK t 2 <;> cases commF (Zb t 0) <;> cases blockB (Zb t 1) <;> rfl
theorem Vke(t:Nd)(p:Option Addr)(c:Nat)(D:Nat→Prop)(w:World)(hk:Kd w D t.kids (.slice p t.kids.length c))(ih:Blw t)(hln:t.kids.length≤1000000):Ret PP Zcd #[ndV t (.slice p t.kids.length c)] w fun r w'=>r = .bool (refSelect t)∧G w w':=by
 have g:=G.refl w;refine WK 50 [0] Vgc ?_;refine Zi (Zk (BM fun _ w1 _ _ g E=>?_));refine Yr O (Ze (kq (Zi (Zi (Zk (Yr O (Ze (kq (Yo (Jn (fun (i:Nat) u1=>(i≤t.kids.length∧∀ j,(h:j<t.kids.length)→j<i→Qza t.kids[j]=true)∧G w1 u1) [(1,True,_)] (fun (i:Nat)=>[(3,True,.int .i64 i)]) (fun (i:Nat)=>t.kids.length-i) (0) ⟨⟨Nat.zero_le _,fun j _ hj=>absurd hj (Nat.not_lt_zero j)⟩,G.refl _⟩ (Za O (Za O (Zo _))) ?_))))))))));rintro i u1 ⟨hI1,gl1⟩;have g:=g.trans gl1;replace E:=E.grow gl1;refine Zi (Zi (Zk (Zp O (Yf Zg O (Yp Zf O (E.g0.at_ O) (Xha Zc O (Xna O O (Ze (kq (Wn O (fun h1=>?_) (fun h1=>?_)))))))))));replace h1:i<t.kids.length:=by simp only [decide_eq_true_eq] at h1;omega
 obtain ⟨hpe,p2,c2,hcell,hkid⟩:=Yl hk h1;obtain ⟨p3,c3,h0x⟩:=Xjc hkid (Qwd ih h1) 0;obtain ⟨p4,c4,h1x⟩:=Xjc hkid (Qwd ih h1) 1;refine Yb (kq (Zi (Yo (Zi (Zk (Yf Zg O (Yp Zf O (E.g0.at_ O) (Zp O (Ji Zc O O (by omega) hpe (Ve Zh O O (hcell.grow g) (AN fun _ _ ga _ g E=>?_)))))))))));have l4_gl1:=ga.ge gl1;have gl1:=gl1.trans (ga.g);refine AS fun _ ga _ g E=>?_;first|replace gl1:=Ya gl1 ga (by omega)|clear gl1|skip
 refine Ze (kq (Zi (Zk (Yf Xl O (Yp Yh O (E.g0.at_ O) (Yyd O O (Zp O (Zj O O O (fun _=>Zn Yn (Zd O)) (Yk O O O (Zw Yg (Zm O id) (fun _=>E.g0.at_ O)) (Zj O O O (fun _=>Que (Zm O id) Xg) (Zq O (fun _=>Vd (Zd O) (Zm O id)) (Zp O (Zj O O O (fun _=>Zn Zg (Zd O)) (Yk O O O (Zw Zf (Zm O id) (fun _=>E.g0.at_ O)) (Zj O O O (fun _=>Vna Zc (Zm O id)) (Zj O O O (fun _=>Qvc (Zm O id) Xg) (?_)))))))))))))))));refine Zq O (fun _=>Vd (Zd O) (Zm O id)) (Zp O (Zj O O O (fun _=>Zn Zg (Zd O)) (Yk O O O (Zw Zf (Zm O id) (fun _=>E.g0.at_ O)) (Zj O O O (fun _=>Xb Zc (Zm O id) Xg (fun hc=>by (have hz:=hc.2;first|(unfold lenK at hz;simp at hz;omega)|(simp at hz;omega))) (fun hc=>(h0x (by (have hz:=hc.2;first|(unfold lenK at hz;simp at hz;omega)|(simp at hz;omega)))).1)) (Yk O O O (Zy Zh (Zm O id) O (fun hc=>(h0x (by (have hz:=hc.2;first|(unfold lenK at hz;simp at hz;omega)|(simp at hz;omega)))).2.1.grow g)) (Xt O O O (fun _=>(Yi Uvd Vc (Ym (Zm O id) (Xh)) O)) (fun hc=>(h0x (by (have hz:=hc.2;first|(unfold lenK at hz;simp at hz;omega)|(simp at hz;omega)))).2.2.2.cm _ _ D _ ((h0x (by (have hz:=hc.2;first|(unfold lenK at hz;simp at hz;omega)|(simp at hz;omega)))).2.2.1.grow g)) (fun w36 g36=>?_)))))));have g:=g.trans g36;have gl1:=gl1.trans (g36);replace E:=E.grow g36
 refine Zj O O O (fun _=>Xmc (Zm O id)) (Zq O (fun _=>Vd (Zd O) (Zm O id)) (Zp O (Zj O O O (fun _=>Zn Zg (Zd O)) (Yk O O O (Zw Zf (Zm O id) (fun _=>E.g0.at_ O)) (Zj O O O (fun _=>Xb Zc (Zm O id) Xg (fun hc=>by (have hz:=hc.2;first|(unfold lenK at hz;simp at hz;omega)|(simp at hz;omega))) (fun hc=>(h1x (by (have hz:=hc.2;first|(unfold lenK at hz;simp at hz;omega)|(simp at hz;omega)))).1)) (Yk O O O (Zy Zh (Zm O id) O (fun hc=>(h1x (by (have hz:=hc.2;first|(unfold lenK at hz;simp at hz;omega)|(simp at hz;omega)))).2.1.grow g)) (Xt O O O (fun _=>(Yi Yka Vc (Ym (Zm O id) (Xh)) O)) (fun hc=>(h1x (by (have hz:=hc.2;first|(unfold lenK at hz;simp at hz;omega)|(simp at hz;omega)))).2.2.2.bl _ _ D _ ((h1x (by (have hz:=hc.2;first|(unfold lenK at hz;simp at hz;omega)|(simp at hz;omega)))).2.2.1.grow g)) (fun w44 g44=>?_))))))));have g:=g.trans g44;have gl1:=gl1.trans (g44);replace E:=E.grow g44;refine IF (fun h2=>?_) fun h2=>?_;replace h2:Qza (Zb t i)=false:=by simpa using (Qxd _).trans h2
 refine RTN ?_;refine ⟨Wfh ?_,g⟩;rw [eq_comm,refSelect,show t.kids.all Qza=false from List.all_eq_false.2 ⟨_,List.getElem_mem h1,by rw [← Wc h1,h2];simp⟩];rfl;replace h2:Qza (Zb t i)=true:=by simpa using (Qxd _).trans h2
 refine AU ?_;refine SK [3,1] ?_;refine Ze (fun a ha=>?_);refine ⟨i+1,ha,⟨⟨h1,fun j h hj=>?_⟩,gl1⟩,by omega⟩;by_cases e:j=i;subst e;rw [← Wc h1];exact h2;exact hI1.2 j h (by omega);refine RTN ?_;refine ⟨Wfh ?_,g⟩
 rw [eq_comm,refSelect,show t.kids.all Qza=true from List.all_eq_true.2 fun x hx=>by
  obtain ⟨j,hj,rfl⟩:=List.getElem_of_mem hx;exact hI1.2 j hj (by simp only [decide_eq_false_iff_not] at h1;omega)];rfl
theorem Xxb(t:Nd)(p:Option Addr)(c:Nat)(D:Nat→Prop)(w:World)(hk:Kd w D t.kids (.slice p t.kids.length c))(ih:Blw t)(hln:t.kids.length≤1000000):Ret PP Yxc #[ndV t (.slice p t.kids.length c)] w fun r w'=>r = .bool (stmtB t)∧G w w':=by
 rw [← Je];have g:=G.refl w;obtain ⟨p0,c0,h0x⟩:=Xjc hk ih 0;obtain ⟨p1,c1,h1x⟩:=Xjc hk ih 1;have hr:∀ k∈t.kids,ROk k:=fun k hk=>ih k (Jp hk);refine Zca (m:=149) Zad O O [(0,True,_)] (Za O (Zo _)) ?_;refine Zi (Zk (BM fun _ _ _ _ g E=>?_));refine Yr O (Ze (kq (Zi (Zk (Yf Zg O (Yp Zf O (E.g0.at_ O) (Xha Zc O (Yr O (Ze (kq (Zi (Zk (Yf Yn O (Yp Yg O (E.g0.at_ O) (Jvd O O (Yr O (Ze (kq (?_)))))))))))))))))));refine Zi (Zi (Zk (Yf Xl O (Yp Yh O (E.g0.at_ O) (Ze (kq (Yo (Zi (Zk (Zya O O (Yr O (Ze (kq (Wn O (fun h1=>?_) (fun h1=>?_)))))))))))))));(try simp only [bsimp] at h1);refine Zi (Zk (Ve Zh O O E.g0.row (Vg O (Yi Zle Vc (aqc O aq0) O) (Vje t _ _ D _ (hk.grow g) ih) (fun w16 g16=>?_))));have g:=g.trans g16;replace E:=E.grow g16;refine Yr O (Ze (kq (Xe (Up O O ?_))));refine ⟨Wfh ?_,g⟩;unfold refStmt;simp only [anyK,h1,cond_true,cond_false] <;> rfl
 refine Zi (Zk (Zya O O (Yr O (Ze (kq (Wn O (fun h2=>?_) (fun h2=>?_)))))));(try simp only [bsimp] at h2);refine Zi (Zk (Ve Zh O O E.g0.row (Vg O (Yi Yka Vc (aqc O aq0) O) (Wpd t _ _ D _ (hk.grow g) ih hln) (fun w20 g20=>?_))));have g:=g.trans g20;replace E:=E.grow g20;refine Yr O (Ze (kq (Xe (Up O O ?_))));refine ⟨Wfh ?_,g⟩;unfold refStmt;simp only [anyK,h1,h2,cond_true,cond_false] <;> rfl
 refine Zi (Zk (Zya O O (Yr O (Ze (kq (Wn O (fun h3=>?_) (fun h3=>?_)))))));(try simp only [bsimp] at h3);refine Zi (Zk (Ve Zh O O E.g0.row (Vg O (Yi Wqe Vc (aqc O aq0) O) (Xbf t _ _ D _ (hk.grow g) ih) (fun w24 g24=>?_))));have g:=g.trans g24;replace E:=E.grow g24;refine Yr O (Ze (kq (Xe (Up O O ?_))));refine ⟨Wfh ?_,g⟩;unfold refStmt;simp only [anyK,h1,h2,h3,cond_true,cond_false] <;> rfl
 refine Zi (Zk (Zya O O (Yr O (Ze (kq (Wn O (fun h4=>?_) (fun h4=>?_)))))));(try simp only [bsimp] at h4);refine Zi (Zk (Ve Zh O O E.g0.row (Vg O (Yi Zdd Vc (aqc O aq0) O) (Vke t _ _ D _ (hk.grow g) ih hln) (fun w28 g28=>?_))));have g:=g.trans g28;replace E:=E.grow g28;refine Yr O (Ze (kq (Xe (Up O O ?_))));refine ⟨Wfh ?_,g⟩;rw [Vtc (by simpa using h4)];unfold refStmt;simp only [anyK,h1,h2,h3,h4,cond_true,cond_false] <;> rfl
 refine Zi (Zk (Zya O O (Yr O (Ze (kq (Wn O (fun h5=>?_) (fun h5=>?_)))))));(try simp only [bsimp] at h5);refine Zi (Zk (Yf Yn O (Yp Yg O (E.g0.at_ O) (Vg O (Yi Zvb Vc (aqc O aq0) O) (Vya _ _) (fun w33 g33=>?_)))));have g:=g.trans g33;replace E:=E.grow g33;refine Zp O (Zj O O O (fun _=>Zl (Zd O)) (Zj O O O (fun _=>Zpa (Zm O id) Xg) (Zq O (fun _=>Yd (Zd O) (Zm O id)) (Zp O (Zj O O O (fun _=>Zn Zg (Zd O)) (Yk O O O (Zw Zf (Zm O id) (fun _=>E.g0.at_ O)) (Zj O O O (fun _=>Xb Zc (Zm O id) Xg (fun hc=>by (have hz:=hc.2;first|(unfold lenK at hz;simp at hz;omega)|(simp at hz;omega))) (fun hc=>(h0x (by (have hz:=hc.2;first|(unfold lenK at hz;simp at hz;omega)|(simp at hz;omega)))).1)) (Yk O O O (Zy Zh (Zm O id) O (fun hc=>(h0x (by (have hz:=hc.2;first|(unfold lenK at hz;simp at hz;omega)|(simp at hz;omega)))).2.1.grow g)) (Xt O O O (fun _=>(Yi Jr Vc (Ym (Zm O id) (Xh)) O)) (fun hc=>(h0x (by (have hz:=hc.2;first|(unfold lenK at hz;simp at hz;omega)|(simp at hz;omega)))).2.2.2.ex _ _ D _ ((h0x (by (have hz:=hc.2;first|(unfold lenK at hz;simp at hz;omega)|(simp at hz;omega)))).2.2.1.grow g)) (fun w43 g43=>?_))))))))));have g:=g.trans g43;replace E:=E.grow g43;refine Zq O (fun _=>Yd (Zd O) (Zm O id)) (Yr O (Ze (kq (Xe (Up O O ?_)))));refine ⟨Wfh ?_,g⟩;unfold refStmt;simp only [anyK,h1,h2,h3,h4,h5,cond_true,cond_false] <;> rfl
 refine Zi (Zi (Zk (Zya O O (Yr O (Ze (kq (?_)))))));refine' Qfd [(1,_,_),(2,_,_),(3,_,_),(4,_,_),(12,_,_)] (Za O (Za O (Za O (Za O (Za O (Za O (Zo _))))))) O (fun hb6=>?y6) (kq ?n6)
 case y6 =>
  refine Zk (Zya O O (Yr O (Vf [(45,_,_),(1,_,_),(2,_,_),(3,_,_),(4,_,_),(12,_,_)] (Za O (Za O (Za O (Za O (Za O (Za O (Zo _))))))) (?_))));exact Ze knr
 case n6 =>
  refine Wn O (fun h7=>?_) (fun h7=>?_);(try simp only [bsimp] at h7);refine Zi (Zk (Zp O (Zp O (Zj O O O (fun _=>Zl (Zd O)) (Zj O O O (fun _=>Zpa (Zm O id) Xg) (Zq O (fun _=>Yd (Zd O) (Zm O id)) (Zp O (Zj O O O (fun _=>Zn Zg (Zd O)) (Yk O O O (Zw Zf (Zm O id) (fun _=>E.g0.at_ O)) (Xt O O O (fun _=>(Yi Vba Vc (Ym (Zm O id) (Xh)) O)) (fun hc=>Jqb _ _ _ D _ (hk.grow g) hr hln) (fun w56 g56=>?_)))))))))));have g:=g.trans g56;replace E:=E.grow g56;refine Zq O (fun _=>Yd (Zd O) (Zm O id)) (Yr O (Ze (kq (Xe (Up O O ?_)))));refine ⟨Wfh ?_,g⟩;unfold refStmt;simp only [anyK,h1,h2,h3,h4,h5,h7,cond_true,cond_false] <;> rfl
  refine Zi (Zk (Zya O O (Yr O (Ze (kq (Wn O (fun h8=>?_) (fun h8=>?_)))))));(try simp only [bsimp] at h8);refine Zi (Zk (Zp O (Zp O (Zj O O O (fun _=>Zl (Zd O)) (Zj O O O (fun _=>Zpa (Zm O id) Xg) (Zq O (fun _=>Yd (Zd O) (Zm O id)) (Zp O (Zj O O O (fun _=>Zn Zg (Zd O)) (Yk O O O (Zw Zf (Zm O id) (fun _=>E.g0.at_ O)) (Zj O O O (fun _=>Xb Zc (Zm O id) Xg (fun hc=>by (have hz:=hc.2;first|(unfold lenK at hz;simp at hz;omega)|(simp at hz;omega))) (fun hc=>(h0x (by (have hz:=hc.2;first|(unfold lenK at hz;simp at hz;omega)|(simp at hz;omega)))).1)) (Yk O O O (Zy Zh (Zm O id) O (fun hc=>(h0x (by (have hz:=hc.2;first|(unfold lenK at hz;simp at hz;omega)|(simp at hz;omega)))).2.1.grow g)) (Xt O O O (fun _=>(Yi Qzb Vc (Ym (Zm O id) (Ym Xg (Xh))) O)) (fun hc=>Yne _ _ _ _ D _ ((h0x (by (have hz:=hc.2;first|(unfold lenK at hz;simp at hz;omega)|(simp at hz;omega)))).2.2.1.grow g) (h0x (by (have hz:=hc.2;first|(unfold lenK at hz;simp at hz;omega)|(simp at hz;omega)))).2.2.2) (fun w70 g70=>?_)))))))))))));have g:=g.trans g70;replace E:=E.grow g70
  refine Zj O O O (fun _=>Zl (Zm O id)) (Zj O O O (fun _=>Zn Zg (Zd O)) (Yk O O O (Zw Zf (Zm O id) (fun _=>E.g0.at_ O)) (Zj O O O (fun _=>Xb Zc (Zm O id) Xg (fun hc=>by (have hz:=hc.1.2;first|(unfold lenK at hz;simp at hz;omega)|(simp at hz;omega))) (fun hc=>(h0x (by (have hz:=hc.1.2;first|(unfold lenK at hz;simp at hz;omega)|(simp at hz;omega)))).1)) (Yk O O O (Zy Zh (Zm O id) O (fun hc=>(h0x (by (have hz:=hc.1.2;first|(unfold lenK at hz;simp at hz;omega)|(simp at hz;omega)))).2.1.grow g)) (Xt O O O (fun _=>(Yi Qzb Vc (Ym (Zm O id) (Ym Xg (Xh))) O)) (fun hc=>Yne _ _ _ _ D _ ((h0x (by (have hz:=hc.1.2;first|(unfold lenK at hz;simp at hz;omega)|(simp at hz;omega)))).2.2.1.grow g) (h0x (by (have hz:=hc.1.2;first|(unfold lenK at hz;simp at hz;omega)|(simp at hz;omega)))).2.2.2) (fun w76 g76=>?_))))));have g:=g.trans g76;replace E:=E.grow g76;refine Zj O O O (fun _=>Vd (Zm O id) (Zm O id)) (Zq O (fun _=>Yd (Zd O) (Zm O id)) (Yr O (Ze (kq (Xe (Up O O ?_))))));refine ⟨Wfh ?_,g⟩;unfold refStmt;simp only [anyK,h1,h2,h3,h4,h5,h7,h8,cond_true,cond_false] <;> rfl
  refine Zi (Zi (Zk (Zya O O (Yr O (Ze (kq (?_)))))));refine' Qfd [(1,_,_),(2,_,_),(3,_,_),(4,_,_),(12,_,_)] (Za O (Za O (Za O (Za O (Za O (Za O (Zo _))))))) O (fun hb9=>?y9) (kq ?n9)
  case y9 =>
   refine Zk (Zya O O (Yr O (Vf [(79,_,_),(1,_,_),(2,_,_),(3,_,_),(4,_,_),(12,_,_)] (Za O (Za O (Za O (Za O (Za O (Za O (Zo _))))))) (?_))));exact Ze knr
  case n9 =>
   refine Wn O (fun h10=>?_) (fun h10=>?_);(try simp only [bsimp] at h10);refine Zi (Zk (Zp O (Zp O (Zj O O O (fun _=>Zl (Zd O)) (Zj O O O (fun _=>Zpa (Zm O id) Xg) (Zq O (fun _=>Yd (Zd O) (Zm O id)) (Zp O (Zj O O O (fun _=>Zn Zg (Zd O)) (Yk O O O (Zw Zf (Zm O id) (fun _=>E.g0.at_ O)) (Zj O O O (fun _=>Xb Zc (Zm O id) Xg (fun hc=>by (have hz:=hc.2;first|(unfold lenK at hz;simp at hz;omega)|(simp at hz;omega))) (fun hc=>(h0x (by (have hz:=hc.2;first|(unfold lenK at hz;simp at hz;omega)|(simp at hz;omega)))).1)) (Yk O O O (Zy Zh (Zm O id) O (fun hc=>(h0x (by (have hz:=hc.2;first|(unfold lenK at hz;simp at hz;omega)|(simp at hz;omega)))).2.1.grow g)) (Xt O O O (fun _=>(Yi Qzb Vc (Ym (Zm O id) (Ym Xg (Xh))) O)) (fun hc=>Yne _ _ _ _ D _ ((h0x (by (have hz:=hc.2;first|(unfold lenK at hz;simp at hz;omega)|(simp at hz;omega)))).2.2.1.grow g) (h0x (by (have hz:=hc.2;first|(unfold lenK at hz;simp at hz;omega)|(simp at hz;omega)))).2.2.2) (fun w92 g92=>?_)))))))))))));have g:=g.trans g92;replace E:=E.grow g92;refine Zq O (fun _=>Yd (Zd O) (Zm O id)) (Yr O (Ze (kq (Xe (Up O O ?_)))));refine ⟨Wfh ?_,g⟩;unfold refStmt;simp only [anyK,h1,h2,h3,h4,h5,h7,h8,h10,cond_true,cond_false] <;> rfl
   refine Zi (Zi (Zk (Zya O O (Yr O (Ze (kq (?_)))))));refine' Qfd [(1,_,_),(2,_,_),(3,_,_),(4,_,_),(12,_,_)] (Za O (Za O (Za O (Za O (Za O (Za O (Zo _))))))) O (fun hb11=>?y11) (kq ?n11)
   case y11 =>
    refine Zk (Zya O O (Yr O (Vf [(94,_,_),(1,_,_),(2,_,_),(3,_,_),(4,_,_),(12,_,_)] (Za O (Za O (Za O (Za O (Za O (Za O (Zo _))))))) (?_))));exact Ze knr
   case n11 =>
    refine Wn O (fun h12=>?_) (fun h12=>?_);(try simp only [bsimp] at h12);refine Zi (Zk (Zp O (Zp O (Zj O O O (fun _=>Zl (Zd O)) (Zj O O O (fun _=>Zpa (Zm O id) Xg) (Zq O (fun _=>Yd (Zd O) (Zm O id)) (Zp O (Zj O O O (fun _=>Zn Zg (Zd O)) (Yk O O O (Zw Zf (Zm O id) (fun _=>E.g0.at_ O)) (Zj O O O (fun _=>Xb Zc (Zm O id) Xg (fun hc=>by (have hz:=hc.2;first|(unfold lenK at hz;simp at hz;omega)|(simp at hz;omega))) (fun hc=>(h0x (by (have hz:=hc.2;first|(unfold lenK at hz;simp at hz;omega)|(simp at hz;omega)))).1)) (Yk O O O (Zy Zh (Zm O id) O (fun hc=>(h0x (by (have hz:=hc.2;first|(unfold lenK at hz;simp at hz;omega)|(simp at hz;omega)))).2.1.grow g)) (Xt O O O (fun _=>(Yi Jr Vc (Ym (Zm O id) (Xh)) O)) (fun hc=>(h0x (by (have hz:=hc.2;first|(unfold lenK at hz;simp at hz;omega)|(simp at hz;omega)))).2.2.2.ex _ _ D _ ((h0x (by (have hz:=hc.2;first|(unfold lenK at hz;simp at hz;omega)|(simp at hz;omega)))).2.2.1.grow g)) (fun w107 g107=>?_)))))))))))));have g:=g.trans g107;replace E:=E.grow g107;refine Zq O (fun _=>Yd (Zd O) (Zm O id)) (Yr O (Ze (kq (Xe (Up O O ?_)))));refine ⟨Wfh ?_,g⟩;unfold refStmt;simp only [anyK,h1,h2,h3,h4,h5,h7,h8,h10,h12,cond_true,cond_false] <;> rfl
    refine Zi (Zk (Zya O O (Yr O (Ze (kq (Wn O (fun h13=>?_) (fun h13=>?_)))))));(try simp only [bsimp] at h13);refine Zi (Zk (Zp O (Zp O (Zj O O O (fun _=>Zl (Zd O)) (Zj O O O (fun _=>Jug (Zm O id) Xg) (Zq O (fun _=>Yd (Zd O) (Zm O id)) (Zp O (Zj O O O (fun _=>Zn Zg (Zd O)) (Yk O O O (Zw Zf (Zm O id) (fun _=>E.g0.at_ O)) (Xt O O O (fun _=>(Yi Vba Vc (Ym (Zm O id) (Xh)) O)) (fun hc=>Jqb _ _ _ D _ (hk.grow g) hr hln) (fun w119 g119=>?_)))))))))));have g:=g.trans g119;replace E:=E.grow g119;refine Zq O (fun _=>Yd (Zd O) (Zm O id)) (Yr O (Ze (kq (Xe (Up O O ?_)))));refine ⟨Wfh ?_,g⟩;unfold refStmt;simp only [anyK,h1,h2,h3,h4,h5,h7,h8,h10,h12,h13,cond_true,cond_false] <;> rfl
    refine Zi (Zk (Zya O O (Yr O (Ze (kq (Wn O (fun h14=>?_) (fun h14=>?_)))))));(try simp only [bsimp] at h14);refine Zi (Zk (Zp O (Zp O (Zj O O O (fun _=>Zl (Zd O)) (Zj O O O (fun _=>Zpa (Zm O id) Xg) (Zq O (fun _=>Yd (Zd O) (Zm O id)) (Zp O (Zj O O O (fun _=>Zn Zg (Zd O)) (Yk O O O (Zw Zf (Zm O id) (fun _=>E.g0.at_ O)) (Zj O O O (fun _=>Xb Zc (Zm O id) Xg (fun hc=>by (have hz:=hc.2;first|(unfold lenK at hz;simp at hz;omega)|(simp at hz;omega))) (fun hc=>(h0x (by (have hz:=hc.2;first|(unfold lenK at hz;simp at hz;omega)|(simp at hz;omega)))).1)) (Yk O O O (Zy Zh (Zm O id) O (fun hc=>(h0x (by (have hz:=hc.2;first|(unfold lenK at hz;simp at hz;omega)|(simp at hz;omega)))).2.1.grow g)) (Xt O O O (fun _=>(Yi Ymb Vc (Ym (Zm O id) (Xh)) O)) (fun hc=>Zlc _ _ _ _) (fun w133 g133=>?_)))))))))))));have g:=g.trans g133;replace E:=E.grow g133;refine Zj O O O (fun _=>Zl (Zm O id)) (Zj O O O (fun _=>Zn Zg (Zd O)) (Yk O O O (Zw Zf (Zm O id) (fun _=>E.g0.at_ O)) (Zj O O O (fun _=>Xb Zc (Zm O id) Xg (fun hc=>by (have hz:=hc.1.2;first|(unfold lenK at hz;simp at hz;omega)|(simp at hz;omega))) (fun hc=>(h0x (by (have hz:=hc.1.2;first|(unfold lenK at hz;simp at hz;omega)|(simp at hz;omega)))).1)) (Yk O O O (Zy Zh (Zm O id) O (fun hc=>(h0x (by (have hz:=hc.1.2;first|(unfold lenK at hz;simp at hz;omega)|(simp at hz;omega)))).2.1.grow g)) (Xt O O O (fun _=>(Yi Jr Vc (Ym (Zm O id) (Xh)) O)) (fun hc=>(h0x (by (have hz:=hc.1.2;first|(unfold lenK at hz;simp at hz;omega)|(simp at hz;omega)))).2.2.2.ex _ _ D _ ((h0x (by (have hz:=hc.1.2;first|(unfold lenK at hz;simp at hz;omega)|(simp at hz;omega)))).2.2.1.grow g)) (fun w139 g139=>?_))))));have g:=g.trans g139
    replace E:=E.grow g139;refine Zj O O O (fun _=>Vd (Zm O id) (Zm O id)) (Zq O (fun _=>Yd (Zd O) (Zm O id)) (Zp O (Zj O O O (fun _=>Zn Zg (Zd O)) (Yk O O O (Zw Zf (Zm O id) (fun _=>E.g0.at_ O)) (Zj O O O (fun _=>Xb Zc (Zm O id) Xg (fun hc=>by (have hz:=hc.2;first|(unfold lenK at hz;simp at hz;omega)|(simp at hz;omega))) (fun hc=>(h1x (by (have hz:=hc.2;first|(unfold lenK at hz;simp at hz;omega)|(simp at hz;omega)))).1)) (Yk O O O (Zy Zh (Zm O id) O (fun hc=>(h1x (by (have hz:=hc.2;first|(unfold lenK at hz;simp at hz;omega)|(simp at hz;omega)))).2.1.grow g)) (Xt O O O (fun _=>(Yi Yka Vc (Ym (Zm O id) (Xh)) O)) (fun hc=>(h1x (by (have hz:=hc.2;first|(unfold lenK at hz;simp at hz;omega)|(simp at hz;omega)))).2.2.2.bl _ _ D _ ((h1x (by (have hz:=hc.2;first|(unfold lenK at hz;simp at hz;omega)|(simp at hz;omega)))).2.2.1.grow g)) (fun w147 g147=>?_))))))));have g:=g.trans g147;replace E:=E.grow g147;refine Zq O (fun _=>Yd (Zd O) (Zm O id)) (Yr O (Ze (kq (Xe (Up O O ?_)))));refine ⟨Wfh ?_,g⟩;unfold refStmt;simp only [anyK,h1,h2,h3,h4,h5,h7,h8,h10,h12,h13,h14,cond_true,cond_false] <;> rfl
    refine Yb (kq (Zi (Zk (Yr O (Ze (kq (Xe (Up O O ?_))))))));refine ⟨Wfh ?_,g⟩;unfold refStmt;simp only [anyK,h1,h2,h3,h4,h5,h7,h8,h10,h12,h13,h14,cond_true,cond_false] <;> rfl
theorem Xyb{t:Nd}(h:t.kind=13∨t.kind=11)(hp:stmtB t=true):t.kids.length=1:=Qnc h (Bool.and_eq_true_iff.1 hp).2
theorem Wqd{t:Nd}(h:t.kind=12)(hp:stmtB t=true):t.kids.length=2:=Jpa (.inl h) (Bool.and_eq_true_iff.1 hp).2
theorem Vkf(t:Nd)(p:Option Addr)(c:Nat)(D:Nat→Prop)(w:World)(hk:Kd w D t.kids (.slice p t.kids.length c))(ih:Blw t)(hln:t.kids.length≤1000000):Ret PP Yzc #[ndV t (.slice p t.kids.length c)] w fun r w'=>r = .bool (commF t)∧G w w':=by
 rw [← Wnd];have g:=G.refl w;obtain ⟨p0,c0,h0x⟩:=Xjc hk ih 0;obtain ⟨p1,c1,h1x⟩:=Xjc hk ih 1;refine WK 50 [0] Zhd ?_;refine BM fun _ _ _ _ g E=>?_;refine AU ?_;refine' OR [1,2,4] (fun hb1=>?y1) (kq ?n1)
 case y1 =>
  refine AU ?_;refine SK [5,1,2,4] ?_;exact Ze knr
 case n1 =>
  refine IF (fun h2=>?_) fun h2=>?_;(try simp only [bsimp] at h2);refine AU ?_;refine CP (Xxb t _ _ D _ (hk.grow g) ih hln) (fun w9 g9=>?_);have g:=g.trans g9;replace E:=E.grow g9;refine AU ?_;refine CG (fun hc=>Zlc _ _ _ _) (fun w12 g12=>?_);have g:=g.trans g12;replace E:=E.grow g12;refine RTN ?_;refine ⟨Wfh ?_,g⟩;unfold Yab;simp only [anyK,h2,cond_true,cond_false] <;> rfl
  refine IF (fun h3=>?_) fun h3=>?_;have hk3:t.kind=13:=by simpa using h3
  refine AU ?_;refine CP (Xxb t _ _ D _ (hk.grow g) ih hln) (fun w17 g17=>?_);have g:=g.trans g17;replace E:=E.grow g17;refine AU ?_;refine Zj O O O (fun _=>Xb Zc (Zm O id) Xg (fun hc=>by have:=Xyb (.inl hk3) hc.2;omega) (fun hc=>(h0x (by have:=Xyb (.inl hk3) hc.2;omega)).1)) ?_;refine AU ?_;refine Yk O O O (Zw Yh (Zm O id) (fun hc=>((h0x (by have:=Xyb (.inl hk3) hc.2;omega)).2.1.grow g) 0 _ O)) ?_;refine RTN ?_;refine ⟨Wfh ?_,g⟩;unfold Yab;simp only [anyK,h2,h3,cond_true,cond_false] <;> rfl
  refine IF (fun h4=>?_) fun h4=>?_;have hk4:t.kind=12:=by simpa using h4
  refine AU ?_;refine CP (Xxb t _ _ D _ (hk.grow g) ih hln) (fun w29 g29=>?_);have g:=g.trans g29;replace E:=E.grow g29;refine AU ?_;refine Zj O O O (fun _=>Xb Zc (Zm O id) Xg (fun hc=>by have:=Wqd hk4 hc.2;omega) (fun hc=>(h1x (by have:=Wqd hk4 hc.2;omega)).1)) ?_;refine AU ?_;refine Yk O O O (Zw Yh (Zm O id) (fun hc=>((h1x (by have:=Wqd hk4 hc.2;omega)).2.1.grow g) 0 _ O)) ?_;refine RTN ?_;refine ⟨Wfh ?_,g⟩;unfold Yab;simp only [anyK,h2,h3,h4,cond_true,cond_false] <;> rfl
  refine IF (fun h5=>?_) fun h5=>?_;have hk5:t.kind=11:=by simpa using h5
  refine AU ?_;refine CP (Xxb t _ _ D _ (hk.grow g) ih hln) (fun w41 g41=>?_);have g:=g.trans g41;replace E:=E.grow g41;refine AU ?_;refine Zj O O O (fun _=>Xb Zc (Zm O id) Xg (fun hc=>by have:=Xyb (.inr hk5) hc.2;omega) (fun hc=>(h0x (by have:=Xyb (.inr hk5) hc.2;omega)).1)) ?_;refine AU ?_;refine Yk O O O (Zw Yh (Zm O id) (fun hc=>((h0x (by have:=Xyb (.inr hk5) hc.2;omega)).2.1.grow g) 0 _ O)) ?_;refine RTN ?_;refine ⟨Wfh ?_,g⟩;unfold Yab;simp only [anyK,h2,h3,h4,h5,cond_true,cond_false] <;> rfl
  refine RTN ?_;refine ⟨Wfh ?_,g⟩;unfold Yab;simp only [anyK,h2,h3,h4,h5,cond_true,cond_false] <;> rfl
theorem Vzg:∀ n t,count t≤n→n≤1000000→ROk t:=by
 intro n
 induction n with
 | zero=>intro t h;have:=Uo t;omega
 | succ n ihn =>
  intro t h hn;have ih:Blw t:=fun k hk=>ihn k (by omega) (by omega);have hln:t.kids.length≤1000000:=by have:=Wz t;omega
  exact ⟨fun p c D w hk=>Vjf t p c D w hk ih hln,fun p c D w hk=>Wpd t p c D w hk ih hln,fun p c D w hk=>Xxb t p c D w hk ih hln,fun p c D w hk=>Xbf t p c D w hk ih,fun p c D w hk=>Vkf t p c D w hk ih hln⟩
theorem rok(t:Nd)(h:count t≤1000000):ROk t:=Vzg _ t h (Nat.le_refl _)
section
variable {P:Program} {n:Nat} {σ:List Ent} {c:Prop} {wb:World} {ty:TypeId}
theorem Zqh{x y:Operand}{k k':IntKind}{a b:Int}{ts:Array TypeId}(h:Ev n σ c x (.int k a))(h':Ev n σ c y (.int k' b)):Rd P n σ c wb (.call { callee:=.builtin .max,args:=#[x,y],argTypes:=ts }) ty (.int k (if b>a then b else a)):=.mk fun d pos after gd a ha hc w1 _=>by
 simp [execOp,resolve,invoke,builtin,h a ha hc,h' a ha hc,Builtin.max_,Builtin.max2]
end
theorem Uag(a b:Nat):(if (b:Int)>a then (b:Int) else a)=((max a b:Nat):Int):=by split <;> omega
def fieldB(t:Nd):Bool:=decide (t.kind=3)&&permF t
theorem Wrd(t:Nd):(!fieldB t)=(((!decide (t.kind=3) || !nameB t.text) || !lenK t 1) || !isTypeB (Zb t 0)):=by
 have e:fieldB t=(((decide (t.kind=3)&&nameB t.text)&&lenK t 1)&&isTypeB (Zb t 0)):=by
  rw [fieldB];by_cases h:t.kind=3;rw [Jd,locB,textB',Yua,h,Vnb];exact congrArg (true && ·) (fl1 (X:=nameB t.text) (q:=typK)).symm |>.trans (by rfl)
  rw [Wdh h];rfl
 rw [e];cases decide (t.kind=3) <;> cases nameB t.text <;> cases lenK t 1 <;> cases isTypeB (Zb t 0) <;> rfl
def declB(t:Nd):Bool:=(memK [2,6,4] t.kind&&permF t) && !fileVarB t
def Vob(t:Nd):Bool :=
 bif decide (t.kind=2) then nameB t.text&&t.kids.all fieldB
 else bif decide (t.kind=6) then varB t&&noneB (Zb t 1)
 else bif decide (t.kind=4) then
  bif !nameB t.text || !lenK t 3 then false else (((decide ((Zb t 0).kind=5)&&plainB (Zb t 0))&&(Zb t 0).kids.all fieldB)&&(noneB (Zb t 1) || isTypeB (Zb t 1)))&&blockB (Zb t 2)
 else false
theorem Qyd{t:Nd}:(everyB t (memK [3])&&t.kids.all permF)=t.kids.all fieldB:=by
 rw [Xwb];congr 1;funext k;rw [Zra];rfl
theorem Vlf(t:Nd):((decide (t.kind=5)&&plainB t)&&t.kids.all fieldB)=(memK [5] t.kind&&permF t):=by
 rw [Zra];by_cases h:t.kind=5;rw [Jd t,locB,textB',Yua,h,Bool.and_assoc];exact congrArg (true && ·) (by rw [← Qyd,← Bool.and_assoc];rfl);rw [Wdh h];rfl
theorem Zbf(t:Nd):Vob t=declB t:=by
 rw [Vob,declB];by_cases h:t.kind=2;rw [Jd t,locB,textB',Yua,fileVarB,h];refine Eq.trans (b:=(nameB t.text&&everyB t (memK [3]))&&t.kids.all permF) ?_ (Eq.trans (Bool.and_true _).symm O);rw [Bool.and_assoc (nameB t.text) (everyB t _),Qyd];rfl;by_cases h1:t.kind=6;rw [varB,fileVarB,h1];refine Eq.trans (b:=permF t&&noneB (Zb t 1)) O (Eq.trans (b:=permF t && !(!lenK t 2 || !decide ((Zb t 1).kind=9))) ?_ O);rw [Zjb]
 cases hp:permF t with
 | false=>rfl
 | true =>
  have hl:=Jpa (.inr h1) hp
  have hk:permF (Zb t 1)=true:=by
   rw [Jd,Bool.and_eq_true,List.all_eq_true] at hp;rw [Wc (by omega)];exact hp.2 _ (List.getElem_mem _)
  rw [hk,show lenK t 2=true by rw [lenK,decide_eq_true_eq];omega];cases decide ((Zb t 1).kind=9) <;> rfl
 by_cases h2:t.kind=4;rw [Vlf,Jd t,locB,textB',Yua,fileVarB,h2];refine Eq.trans (b:=bif !nameB t.text || !lenK t 3 then false else ((memK [5] (Zb t 0).kind&&permF (Zb t 0))&&(noneB (Zb t 1) || isTypeB (Zb t 1)))&&blockB (Zb t 2)) O (Eq.trans (b:=(nameB t.text&&kidsB t [memK [5],fun k=>typK k || memK [9] k,memK [10]])&&t.kids.all permF) ?_ (Eq.trans (Bool.and_true _).symm O));rw [Yle,Bool.and_assoc (nameB t.text) (kidsB t _),Zaf,Zjb,Vnb,Yke,blockB,Zra 9,Zra 10];ac_rfl;simp only [memK,List.mem_cons,List.not_mem_nil,h,h1,h2,decide_false,or_false,cond_false,Bool.false_and]
theorem Qzd(l:List Nd)(p:Option Addr)(c:Nat)(D:Nat→Prop)(w:World)(hk:Kd w D l (.slice p l.length c))(hln:l.length≤1000000):Ret PP Und #[.slice p l.length c] w fun r w'=>r = .bool (l.all fieldB)∧G w w':=by
 have g:=G.refl w;obtain ⟨p',c',hpe,_,hks⟩:=hk;injection hpe with hpe _ hce;subst hpe hce;refine Zca (m:=45) Juc O O [(0,True,_)] (Za O (Zo _)) ?_;refine Zi (Zk (Yr O (Ze (kq (Zi (Zi (Zk (Yr O (Ze (kq (Yo (Jn (fun (i:Nat) u1=>(i≤l.length∧∀ j,(h:j<l.length)→j<i→fieldB l[j]=true)∧G w u1) [(0,True,_)] (fun (i:Nat)=>[(3,True,.int .i64 i)]) (fun (i:Nat)=>l.length-i) (0) ⟨⟨Nat.zero_le _,fun j _ hj=>absurd hj (Nat.not_lt_zero j)⟩,G.refl _⟩ (Za O (Za O (Zo _))) ?_))))))))))));rintro i u1 ⟨hI1,gl1⟩;have g:=g.trans gl1;refine Zi (Zi (Zk (Zp O (Zp O (Xha Zc O (Xna O O (Ze (kq (Wn O (fun h1=>?_) (fun h1=>?_))))))))));replace h1:i<l.length:=by simp only [decide_eq_true_eq] at h1;omega
 obtain ⟨b,o,rfl,hD,xs,hR,hX⟩:=hks (by omega);obtain ⟨p',c',hcell,hkid⟩:=Zgb hR hX h1;obtain ⟨p3,c3,h0x⟩:=Yyf hkid 0;refine Yb (kq (Zi (Yo (Zi (Zk (Zp O (Zp O (Qpa Zc O O (by omega) (Yf Xl O (Yp Yh O ((hcell.grow g) 0 _ O) (Yyd O O (Zp O (Zj O O O (fun _=>Zl (Zd O)) (Zj O O O (fun _=>Zl (Zd O)) (Zj O O O (fun _=>Qna Zc (Zm O id) (Zm O id) (fun _=>by omega)) (Zj O O O (fun _=>Zn Yn (Zm O id)) (?_)))))))))))))))));refine Yk O O O (Zw Yg (Zm O id) (fun _=>(hcell.grow g) 1 _ O)) (Xt O O O (fun _=>(Yi Zvb Vc (Ym (Zm O id) (Xh)) O)) (fun hc=>Vya _ _) (fun w22 g22=>?_));have g:=g.trans g22;have gl1:=gl1.trans (g22);refine Zj O O O (fun _=>Xmc (Zm O id)) (Zq O (fun _=>Vd (Zd O) (Zm O id)) (Zp O (Zj O O O (fun _=>Zl (Zd O)) (Zj O O O (fun _=>Zl (Zd O)) (Zj O O O (fun _=>Qna Zc (Zm O id) (Zm O id) (fun _=>by omega)) (Zj O O O (fun _=>Zn Zg (Zm O id)) (Yk O O O (Zw Zf (Zm O id) (fun _=>(hcell.grow g) 4 _ O)) (Zj O O O (fun _=>Vna Zc (Zm O id)) (Zj O O O (fun _=>Qvc (Zm O id) Xg) (Zq O (fun _=>Vd (Zd O) (Zm O id)) (Zp O (Zj O O O (fun _=>Zl (Zd O)) (Zj O O O (fun _=>Zl (Zd O)) (Zj O O O (fun _=>Qna Zc (Zm O id) (Zm O id) (fun _=>by omega)) (Zj O O O (fun _=>Zn Zg (Zm O id)) (?_))))))))))))))))
 refine Yk O O O (Zw Zf (Zm O id) (fun _=>(hcell.grow g) 4 _ O)) (Zj O O O (fun _=>Xb Zc (Zm O id) Xg (fun hc=>by (have hz:=hc.2;first|(unfold lenK at hz;simp at hz;omega)|(simp at hz;omega))) (fun hc=>(h0x (by (have hz:=hc.2;first|(unfold lenK at hz;simp at hz;omega)|(simp at hz;omega)))).1)) (Yk O O O (Zy Zh (Zm O id) O (fun hc=>(h0x (by (have hz:=hc.2;first|(unfold lenK at hz;simp at hz;omega)|(simp at hz;omega)))).2.1.grow g)) (Xt O O O (fun _=>(Yi Yuc Vc (Ym (Zm O id) (Xh)) O)) (fun hc=>Zic _ _ _ _) (fun w42 g42=>?_))));have g:=g.trans g42;have gl1:=gl1.trans (g42);refine IF (fun h2=>?_) fun h2=>?_;replace h2:fieldB l[i]=false:=by simpa using (Wrd _).trans h2
 refine RTN ?_;refine ⟨Wfh ?_,g⟩;rw [eq_comm,List.all_eq_false];exact ⟨_,List.getElem_mem h1,by rw [h2];simp⟩;replace h2:fieldB l[i]=true:=by simpa using (Wrd _).trans h2
 refine AU ?_;refine SK [3,0] ?_;refine Ze (fun a ha=>?_);refine ⟨i+1,ha,⟨⟨h1,fun j h hj=>?_⟩,gl1⟩,by omega⟩;by_cases e:j=i;subst e;exact h2;exact hI1.2 j h (by omega);refine RTN ?_;refine ⟨Wfh ?_,g⟩;rw [eq_comm,List.all_eq_true];intro x hx;obtain ⟨j,hj,rfl⟩:=List.getElem_of_mem hx;exact hI1.2 j hj (by simp only [decide_eq_false_iff_not] at h1;omega)
theorem Vmf(t:Nd)(p:Option Addr)(c:Nat)(D:Nat→Prop)(w:World)(hk:Kd w D t.kids (.slice p t.kids.length c))(hcn:count t≤1000000):Ret PP Uid #[ndV t (.slice p t.kids.length c)] w fun r w'=>r = .bool (declB t)∧G w w':=by
 rw [← Zbf];have g:=G.refl w;have hln:=Wz t;have ih:Blw t:=fun k hk=>rok k (by omega);obtain ⟨p1,c1,h1x⟩:=Xjc hk ih 1;refine WK 77 [0] Jsc ?_;refine BM fun _ _ _ _ g E=>?_;refine IF (fun h1=>?_) fun h1=>?_;(try simp only [bsimp] at h1);refine AU ?_;refine CP (Vya _ _) (fun w10 g10=>?_);have g:=g.trans g10;replace E:=E.grow g10;refine AU ?_;refine CG (fun hc=>Qzd _ _ _ D _ (hk.grow g) (by omega)) (fun w14 g14=>?_);have g:=g.trans g14;replace E:=E.grow g14;refine RTN ?_;refine ⟨Wfh ?_,g⟩;unfold Vob;simp only [h1,cond_true,cond_false] <;> rfl
 refine IF (fun h2=>?_) fun h2=>?_;have hk2:t.kind=6:=by simpa using h2
 refine AU ?_;refine CP (Vje t _ _ D _ (hk.grow g) ih) (fun w19 g19=>?_);have g:=g.trans g19;replace E:=E.grow g19;refine AU ?_;refine Zj O O O (fun _=>Xb Zc (Zm O id) Xg (fun hc=>by have:=Jpa (.inr hk2) (Bool.and_eq_true_iff.1 hc.2).2;omega) (fun hc=>(h1x (by have:=Jpa (.inr hk2) (Bool.and_eq_true_iff.1 hc.2).2;omega)).1)) (Yk O O O (Zy Zh (Zm O id) O (fun hc=>(h1x (by have:=Jpa (.inr hk2) (Bool.and_eq_true_iff.1 hc.2).2;omega)).2.1.grow g)) (CG (fun hc=>Zlc _ _ _ _) (fun w25 g25=>?_)));have g:=g.trans g25;replace E:=E.grow g25;refine RTN ?_;refine ⟨Wfh ?_,g⟩;unfold Vob;simp only [h1,h2,cond_true,cond_false] <;> rfl
 refine IF (fun h3=>?_) fun h3=>?_;(try simp only [bsimp] at h3);refine Zi (Zi (Zk (Yf Yn O (Yp Yg O (E.g0.at_ O) (Vg O (Yi Zvb Vc (aqc O aq0) O) (Vya _ _) (fun w31 g31=>?_))))));have g:=g.trans g31;replace E:=E.grow g31;refine Zmh O (Zp O (Zj O O O (fun _=>Zn Zg (Zd O)) (Yk O O O (Zw Zf (Zm O id) (fun _=>E.g0.at_ O)) (Zj O O O (fun _=>Vna Zc (Zm O id)) (Zj O O O (fun _=>Qvc (Zm O id) Xg) (Zq O (fun _=>Vd (Zd O) (Zm O id)) (Ze (kq (Wn O (fun h4=>?_) (fun h4=>?_))))))))));replace h4:(!nameB t.text || !lenK t 3)=true:=h4;refine Zi (Zk (Yr O (Ze (kq (Xe (Up O O ?_))))));refine ⟨Wfh ?_,g⟩;unfold Vob;simp only [h1,h2,h3,h4,cond_true,cond_false] <;> rfl
 replace h4:(!nameB t.text || !lenK t 3)=false:=h4;have hl3:t.kids.length=3:=by simp only [lenK,Bool.or_eq_false_iff,Bool.not_eq_false',decide_eq_true_eq] at h4;omega
 obtain ⟨hpe,p0,c0,hcell0,hkid0⟩:=Yl hk (i:=0) (by omega);obtain ⟨_,p2,c2,hcell2,hkid2⟩:=Yl hk (i:=2) (by omega);obtain ⟨_,hcell1,hkid1,hr1⟩:=h1x (by omega);have hr2:=ih.kid (i:=2) (by omega);have hkl0:=Vhf hcn 0;refine Yb (kq (Zi (Zk (Yf Zg O (Yp Zf O (E.g0.at_ O) (Ji Zc O O (by omega) hpe (Ve Zh O O (hcell0.grow g) (AN fun _ _ _ _ g E=>?_))))))));refine AS fun _ _ _ g E=>?_;refine Ze (kq (Zi (Zk (Yf Xl O (Yp Yh O (E.g0.at_ O) (Zya O O (Zp O (Zj O O O (fun _=>Zn Yn (Zd O)) (Yk O O O (Zw Yg (Zm O id) (fun _=>E.g0.at_ O)) (Zj O O O (fun _=>Xnc (Zm O id) Xg) (Zq O (fun _=>Yd (Zd O) (Zm O id)) (Zp O (Zj O O O (fun _=>Zn Zg (Zd O)) (Yk O O O (Zw Zf (Zm O id) (fun _=>E.g0.at_ O)) (Xt O O O (fun _=>(Yi Uod Vc (Ym (Zm O id) (Xh)) O)) (fun hc=>Qzd _ _ _ D _ (hkid0.grow g) hkl0) (fun w54 g54=>?_))))))))))))))));have g:=g.trans g54;replace E:=E.grow g54;refine Zq O (fun _=>Yd (Zd O) (Zm O id)) (Zp O (Zj O O O (fun _=>Zn Zg (Zd O)) (Yk O O O (Zw Zf (Zm O id) (fun _=>E.g1.at_ O)) (Zj O O O (fun _=>Xb Zc (Zm O id) Xg (fun _=>by omega) (fun _=>hpe)) (Yk O O O (Zy Zh (Zm O id) O (fun _=>hcell1.grow g)) (Xt O O O (fun _=>(Yi Ymb Vc (Ym (Zm O id) (Xh)) O)) (fun hc=>Zlc _ _ _ _) (fun w61 g61=>?_)))))));have g:=g.trans g61;replace E:=E.grow g61;refine Zj O O O (fun _=>Zl (Zm O id)) (Zj O O O (fun _=>Zn Zg (Zd O)) (Yk O O O (Zw Zf (Zm O id) (fun _=>E.g1.at_ O)) (Zj O O O (fun _=>Xb Zc (Zm O id) Xg (fun _=>by omega) (fun _=>hpe)) (Yk O O O (Zy Zh (Zm O id) O (fun _=>hcell1.grow g)) (Xt O O O (fun _=>(Yi Yuc Vc (Ym (Zm O id) (Xh)) O)) (fun hc=>Zic _ _ _ _) (fun w67 g67=>?_))))));have g:=g.trans g67;replace E:=E.grow g67
 refine Zj O O O (fun _=>Vd (Zm O id) (Zm O id)) (Zq O (fun _=>Yd (Zd O) (Zm O id)) (Zp O (Zj O O O (fun _=>Zn Zg (Zd O)) (Yk O O O (Zw Zf (Zm O id) (fun _=>E.g1.at_ O)) (Zj O O O (fun _=>Xb Zc (Zm O id) Xg (fun _=>by omega) (fun _=>hpe)) (Yk O O O (Zy Zh (Zm O id) O (fun _=>hcell2.grow g)) (Xt O O O (fun _=>(Yi Yka Vc (Ym (Zm O id) (Xh)) O)) (fun hc=>hr2.bl _ _ D _ (hkid2.grow g)) (fun w75 g75=>?_))))))));have g:=g.trans g75;replace E:=E.grow g75;refine RTN ?_;refine ⟨Wfh ?_,g⟩;unfold Vob;simp only [h1,h2,h3,h4,cond_true,cond_false] <;> rfl
 refine RTN ?_;refine ⟨Wfh ?_,g⟩;unfold Vob;simp only [h1,h2,h3,cond_true,cond_false] <;> rfl
theorem Jad:∀ (t:Nd) (v:Value) (D:Nat→Prop) (w:World),Kd w D t.kids v→count t≤1000000→Ret PP Zde #[ndV t v] w fun r w'=>r = .int .i64 (depthN t:Nat)∧G w w':=by
 refine Nd.ind fun t ih v D w hk hcn=>?_;obtain ⟨p,c,rfl,hcap,hks⟩:=hk;have g:=G.refl w;have hlen:=Wz t;have hdc:=Yie t;have hde:=Qud t
 have hpre:∀ i,maxL ((t.kids.take i).map depthN)≤maxL (t.kids.map depthN):=fun i=>by
  rw [Ygd];intro x hx;rw [List.map_take] at hx;exact (Ygd _ _).1 (Nat.le_refl _) x (List.mem_of_mem_take hx)
 refine WK 22 [0] Xgd ?_;refine BM fun _ w1 _ _ g E=>?_;refine Yr O (Ze (kq (Zi (Zk (Yr O (Ze (kq (Zi (Zi (Zk (Yr O (Ze (kq (Yo (Jn (fun (i:Nat) u1=>(i≤t.kids.length)∧G w1 u1) [(1,True,_),(2,True,_)] (fun (i:Nat)=>[(3,True,.int .i64 ((maxL ((t.kids.take i).map depthN):Nat):Int)),(4,True,.int .i64 i)]) (fun (i:Nat)=>t.kids.length-i) (0) ⟨by simp,G.refl _⟩ (Za O (Za O (Za O (Za O (Zo _))))) ?_)))))))))))))));rintro i u1 ⟨hI1,gl1⟩;have g:=g.trans gl1;replace E:=E.grow gl1;refine Zi (Zi (Zk (Zp O (Yf Zg O (Yp Zf O (E.g0.at_ O) (Xha Zc O (Xna O O (Ze (kq (Wn O (fun h1=>?_) (fun h1=>?_)))))))))));replace h1:i<t.kids.length:=by simp only [decide_eq_true_eq] at h1;omega
 obtain ⟨b,o,rfl,hD,xs,hR,hX⟩:=hks (by omega);obtain ⟨p',c',hcell,hkid⟩:=Zgb hR hX h1;have hck:=Zfa h1;refine Yb (kq (Zi (Yo (Wf [3,3,0,3,3,0,1,3,3] (Zp O (Yf Zg O (Yp Zf O (E.g0.at_ O) (Zp O (Qpa Zc O O (by omega) (Ve Zh O O (hcell.grow g) (Vg O (Yi Zee Vc (aqc O aq0) O) (ih _ (List.getElem_mem h1) _ _ _ (hkid.grow g) (by omega)) (fun w18 g18=>?_))))))))))));have gl1:=gl1.trans (g18);replace E:=E.grow g18;refine Zq O (fun _=>Zqh (Zd O) (Zd O)) (Yr O (Ze (kq (Zk (Zp O (Jta O O (by omega) (Yr O (Vf [(3,_,_),(4,_,_),(1,_,_),(2,_,_)] (Za O (Za O (Za O (Za O (Zo _))))) (Ze (fun a ha=>?_))))))))));rw [Uag,show max (maxL ((t.kids.take i).map depthN)) (depthN t.kids[i])=maxL ((t.kids.take (i+1)).map depthN) by rw [Xhc depthN t.kids i h1,maxL,maxL,List.foldl_append];rfl] at ha;exact ⟨i+1,ha,⟨h1,gl1⟩,by omega⟩;replace h1:i=t.kids.length:=by simp only [decide_eq_false_iff_not] at h1;omega
 have hp:=hpre i;refine RTN ?_;refine ⟨?_,g⟩;rw [h1,List.take_length,hde];rfl
theorem Vnf(t:Nd):(bif (!decide (t.kind=1) || !plainB t) || decide ((50:Int)<(depthN t:Nat)) then false else t.kids.all declB)=validB t:=by
 rw [validB,Zbg];by_cases h:t.kind=1;rw [Jd,locB,textB',Yua,h];refine Eq.trans (b:=bif !plainB t || decide ((50:Int)<(depthN t:Nat)) then false else t.kids.all declB) O (Eq.trans (b:=((plainB t&&(!(t.kids.any fileVarB)&&everyB t (memK [2,6,4])))&&t.kids.all permF)&&decide (depthN t≤50)) ?_ O)
 have e1:decide ((50:Int)<(depthN t:Nat)) = !decide (depthN t≤50):=by
  rw [← decide_not,decide_eq_decide];omega
 have e2:t.kids.all declB=((!(t.kids.any fileVarB)&&everyB t (memK [2,6,4]))&&t.kids.all permF):=by
  rw [Bool.and_assoc,Xwb,Bool.eq_iff_iff];simp only [Bool.and_eq_true,List.all_eq_true,declB,Bool.not_eq_true',List.any_eq_false];constructor;intro h;exact ⟨fun k hk=>by rw [(h k hk).2];simp,fun k hk=>(h k hk).1⟩;rintro ⟨h1,h2⟩ k hk;exact ⟨h2 k hk,by simpa using h1 k hk⟩
 rw [e1,Yle,e2];ac_rfl;rw [Wdh h];rfl
theorem Vle(t:Nd)(v:Value)(D:Nat→Prop)(w:World)(hk:Kd w D t.kids v)(hcn:count t≤1000000):Ret PP Zfe #[ndV t v] w fun r w'=>r = .bool (validB t)∧G w w':=by
 rw [← Vnf];obtain ⟨p,c,rfl,hcap,hks⟩:=hk;have hk0:Kd w D t.kids (.slice p t.kids.length c):=⟨p,c,rfl,hcap,hks⟩;have g:=G.refl w;have hln:=Wz t;refine WK 31 [0] Xhd ?_;refine BM fun _ _ _ _ g E=>?_;refine AU ?_;refine CG (fun hc=>Jad t _ D _ (hk0.grow g) hcn) (fun w14 g14=>?_);have g:=g.trans g14;replace E:=E.grow g14;refine IF (fun h1=>?_) fun h1=>?_;replace h1:((!decide (t.kind=1) || !plainB t) || decide ((50:Int)<(depthN t:Nat)))=true:=h1;refine RTN ?_;refine ⟨Wfh ?_,g⟩;rw [h1];rfl;replace h1:((!decide (t.kind=1) || !plainB t) || decide ((50:Int)<(depthN t:Nat)))=false:=h1;refine AU ?_;refine Jn (fun (i:Nat) u1=>(i≤t.kids.length∧∀ j,(h:j<t.kids.length)→j<i→declB t.kids[j]=true)∧G w14 u1) [(1,True,_)] (fun (i:Nat)=>[(3,True,.int .i64 i)]) (fun (i:Nat)=>t.kids.length-i) (0) ⟨⟨Nat.zero_le _,fun j _ hj=>absurd hj (Nat.not_lt_zero j)⟩,G.refl _⟩ (Za O (Za O (Zo _))) ?_;rintro i u1 ⟨hI1,gl1⟩;have g:=g.trans gl1;replace E:=E.grow gl1;refine IF (fun h2=>?_) fun h2=>?_;replace h2:i<t.kids.length:=by simp only [decide_eq_true_eq] at h2;omega
 obtain ⟨hpe,p2,c2,hcell,hkid⟩:=Yl hk0 h2;have hck:=Jk h2;refine AU ?_;refine CP (Vmf _ _ _ D _ (hkid.grow g) (by omega)) (fun w29 g29=>?_);have g:=g.trans g29;have gl1:=gl1.trans (g29);replace E:=E.grow g29;refine IF (fun h3=>?_) fun h3=>?_;(try simp only [bsimp] at h3);refine RTN ?_;refine ⟨Wfh ?_,g⟩;rw [h1,cond_false,eq_comm,List.all_eq_false];exact ⟨_,List.getElem_mem h2,by rw [← Wc h2];simpa using h3⟩;refine AU ?_;refine SK [3,1] ?_;refine Ze (fun a ha=>?_);refine ⟨i+1,ha,⟨⟨h2,fun j h hj=>?_⟩,gl1⟩,by omega⟩;by_cases e:j=i;subst e;rw [← Wc h2];simpa using h3;exact hI1.2 j h (by omega);refine RTN ?_;refine ⟨Wfh ?_,g⟩;rw [h1,cond_false,eq_comm,List.all_eq_true];intro x hx;obtain ⟨j,hj,rfl⟩:=List.getElem_of_mem hx;exact hI1.2 j hj (by simp only [decide_eq_false_iff_not] at h2;omega)
def countsB(t:Nd):Bool:=decide (t.kind=24) || decide (t.kind=25)
theorem Zcf(t:Nd)(p:Option Addr)(c:Nat)(w:World):Ret PP Uqd #[ndV t (.slice p t.kids.length c)] w fun v w'=>v = .bool (countsB t)∧G w w':=by
 have g:=G.refl w;refine WK 11 [0] Jwc ?_;refine BM fun _ _ _ _ g E=>?_;refine RTN ?_;exact ⟨rfl,g⟩
def lenQ(a b:Nd):Bool:=decide ((a.kids.length:Int)=b.kids.length)
def cmpT(q:Nd→Nd→Bool)(a:Nd):Nd→Bool:=para (fun a l b=>q a b&&(List.range a.kids.length).all fun i=>(l.getD i fun _=>false) (Zb b i)) a
theorem Vof{n:Nat}{f h:Nat→Bool}(e:∀ i,i<n→f i=h i):(List.range n).all f=(List.range n).all h:=by
 rw [Bool.eq_iff_iff,List.all_eq_true,List.all_eq_true];exact ⟨fun k i hi=>(e i (List.mem_range.1 hi))▸k i hi,fun k i hi=>(e i (List.mem_range.1 hi)).symm▸k i hi⟩
theorem Ubg(q:Nd→Nd→Bool)(a b:Nd):cmpT q a b=(q a b&&(List.range a.kids.length).all fun i=>cmpT q (Zb a i) (Zb b i)):=by
 rw [cmpT,Yaa];refine congrArg (q a b && ·) (Vof fun i hi=>?_)
 have:(a.kids.map (cmpT q)).getD i (fun _=>false)=cmpT q (Zb a i):=by
  rw [Wc hi];simp [List.getD_eq_getElem?_getD,List.getElem?_eq_getElem hi]
 exact congrFun this (Zb b i)
theorem lenQ_iff{a b:Nd}:lenQ a b=true↔a.kids.length=b.kids.length:=by rw [lenQ,decide_eq_true_eq];omega
def tyQB(a b:Ty):Bool:=decide (a.kind=b.kind)&&(decide (a.name=b.name)&&true)
theorem Zhg(a b:Ty):tyQB a b=true↔a=b:=by
 cases a;cases b;simp [tyQB]
def Xkc(a b:Nd):Bool:=((((((decide (a.kind=b.kind)&&decide (a.text=b.text))&&decide (a.num=b.num))&&decide (a.pos=b.pos))&&tyQB a.ty b.ty)&&decide (a.ref=b.ref))&&decide (a.up=b.up))&&lenQ a b
theorem Jbd(a b:Nd):(!Xkc a b)=(((((((!decide (a.kind=b.kind) || !decide (a.text=b.text)) || !decide (a.num=b.num)) || !decide (a.pos=b.pos)) || !tyQB a.ty b.ty) || !decide (a.ref=b.ref)) || !decide (a.up=b.up)) || !lenQ a b):=by
 unfold Xkc;simp only [Bool.not_and]
def smB(a b:Nd):Bool:=cmpT Xkc a b
theorem Zig(a b:Nd):smB a b=(Xkc a b&&(List.range a.kids.length).all fun i=>smB (Zb a i) (Zb b i)):=Ubg Xkc a b
theorem Vpf{a b:Nd}(h:Xkc a b=true):a.kids.length=b.kids.length:=by
 unfold Xkc at h;rw [Bool.and_eq_true] at h;exact lenQ_iff.1 h.2
theorem Vme:∀ a,smB a a=true:=by
 refine Nd.ind fun a ih=>?_;rw [Zig,Bool.and_eq_true,List.all_eq_true];refine ⟨by simp [Xkc,lenQ,(Zhg a.ty a.ty).2 rfl],fun i hi=>?_⟩;rw [Wc (List.mem_range.1 hi)];exact ih _ (List.getElem_mem _)
theorem Vne:∀ (a:Nd) (va:Value) (D:Nat→Prop) (b:Nd) (vb:Value) (D':Nat→Prop) (w:World),Kd w D a.kids va→Kd w D' b.kids vb→count a≤1000000→Ret PP Wae #[ndV a va,ndV b vb] w fun r w'=>r = .bool (smB a b)∧G w w':=by
 refine Nd.ind fun a ih va D b vb D' w hka hkb hcn=>?_;obtain ⟨pa,ca,rfl,hcapa,hksa⟩:=hka;have hka0:Kd w D a.kids (.slice pa a.kids.length ca):=⟨pa,ca,rfl,hcapa,hksa⟩;obtain ⟨pb',cb,rfl,hcapb,hksb⟩:=hkb;have hkb0:Kd w D' b.kids (.slice pb' b.kids.length cb):=⟨pb',cb,rfl,hcapb,hksb⟩;have g:=G.refl w;have hln:=Wz a;rw [Zig];refine WK 81 [0,1] Vxd ?_;refine BM fun _ _ _ _ g E=>?_;refine BN fun _ w3 _ _ g E=>?_;refine IF (fun h1=>?_) fun h1=>?_;replace h1:Xkc a b=false:=by simpa using (Jbd a b).trans h1
 refine RTN ?_;rw [h1];exact ⟨rfl,g⟩;replace h1:Xkc a b=true:=by simpa using (Jbd a b).trans h1
 have hl:=Vpf h1;refine AU ?_;refine Jn (fun (i:Nat) u1=>(i≤a.kids.length∧∀ j,j<i→smB (Zb a j) (Zb b j)=true)∧G w3 u1) [(2,True,_),(3,True,_)] (fun (i:Nat)=>[(5,True,.int .i64 i)]) (fun (i:Nat)=>a.kids.length-i) (0) ⟨⟨Nat.zero_le _,fun j hj=>absurd hj (Nat.not_lt_zero j)⟩,G.refl _⟩ (Za O (Za O (Za O (Zo _)))) ?_;rintro i u1 ⟨hI1,gl1⟩;have g:=g.trans gl1;replace E:=E.grow gl1;refine IF (fun h2=>?_) fun h2=>?_;replace h2:i<a.kids.length:=by simp only [decide_eq_true_eq] at h2;omega
 obtain ⟨hpa,p1,c1,hcell1,hkid1⟩:=Yl hka0 h2;obtain ⟨hpb,p2,c2,hcell2,hkid2⟩:=Yl hkb0 (i:=i) (by omega);have hck:=Jk h2;refine Yb (kq (Zi (Yo (Zi (Yx [3,0,3,3,0,3,0,3,3,0,1,3] [true,true,true,true,true,true,true,true,true,true,true,true] [0,1,0,7,15,0,32,0,224,480,1023,2047] mix (by kernel_rfl) ?_)))));have g:=gdr g;have gl1:=gl1.trans (G.drew _);replace E:=E.dr;refine Yf Zg O (Yp Zf O (E.g1.at_ O) (Zp O (Ji Zc O O (by omega) hpa (Ve Zh O O (hcell1.grow g) (Yf Zg O (Yp Zf O (E.g0.at_ O) (Zp O (Ji Zc O O (by omega) hpb (Ve Zh O O (hcell2.grow g) (Vg O (Yi Wbe Vc (aqc O (aqc O aq0)) O) (ih _ (Wc h2▸List.getElem_mem h2) _ D _ _ D' _ (hkid1.grow g) (hkid2.grow g) (by omega)) (fun w79 g79=>?_)))))))))));have g:=g.trans g79;have gl1:=gl1.trans (g79);replace E:=E.grow g79;refine IF (fun h3=>?_) fun h3=>?_;(try simp only [bsimp] at h3);refine RTN ?_;refine ⟨Wfh ?_,g⟩;rw [h1,Bool.true_and,eq_comm,List.all_eq_false];exact ⟨i,List.mem_range.2 h2,by simpa using h3⟩;refine AU ?_;refine SK [5,2,3] ?_;refine Ze (fun a ha=>?_);refine ⟨i+1,ha,⟨⟨h2,fun j hj=>?_⟩,gl1⟩,by omega⟩;by_cases e:j=i;subst e;simpa using h3;exact hI1.2 j (by omega);refine RTN ?_;refine ⟨Wfh ?_,g⟩;rw [h1,Bool.true_and,eq_comm,List.all_eq_true];intro j hj;exact hI1.2 j (by have:=List.mem_range.1 hj;simp only [decide_eq_false_iff_not] at h2;omega)
def numS(t:Nd):Int:=bif countsB t then t.num else 0
def stripT(t:Nd):Nd:=para (fun t l=>.mk t.kind t.text (numS t) 0 l ty0 0 0) t
theorem Vqf(t:Nd):stripT t = .mk t.kind t.text (numS t) 0 (t.kids.map stripT) ty0 0 0:=Yaa _ t
def plainT(t:Nd):Nd:=para (fun t l=>.mk t.kind t.text (numS t) t.pos l ty0 0 0) t
theorem Via(t:Nd):plainT t = .mk t.kind t.text (numS t) t.pos (t.kids.map plainT) ty0 0 0:=Yaa _ t
theorem Vrf(t:Nd):(plainT t).kids.length=t.kids.length:=by rw [Via,Nd.kids,List.length_map]
theorem Jrb(t:Nd)(v:Value):ndCells (stripT t) v=[.int .i64 t.kind,Str t.text,.int .i64 (numS t),.int .i64 0,v,.int .i64 0,Str [],.int .i64 0,.int .i64 0]:=by rw [Vqf];rfl
theorem Jhc(t:Nd)(v:Value):ndCells (plainT t) v=[.int .i64 t.kind,Str t.text,.int .i64 (numS t),.int .i64 t.pos,v,.int .i64 0,Str [],.int .i64 0,.int .i64 0]:=by rw [Via];rfl
theorem Xva(t:Nd):(plainT t).kids=t.kids.map plainT:=by rw [Via];rfl
structure Vr where
  name:List UInt8
  typ:Ty
  num:Nat
  level:Nat
  scope:Nat
def vrCells(v:Vr):List Value:=[Str v.name,.int .i64 v.typ.kind,Str v.typ.name,.int .i64 v.num,.int .i64 v.level,.int .i64 v.scope]
structure CSt where
  vars:List Vr
  scope:Nat
  level:Nat
  next:List Nat
  result:Ty
  ea:Int
  ee:Int
def failS(a e:Int)(S:CSt):CSt:=bif decide (S.ee=0) then { S with ea:=a,ee:=e } else S
def failU(b:Bool)(a e:Int)(S:CSt):CSt:=bif b then S else failS a e S
def clnT(t:Nd):Nd:=.mk t.kind t.text (numS t) t.pos [] ty0 0 0
def annT(t:Nd)(ks:List Nd)(y:Ty):Nd:=.mk t.kind t.text (numS t) t.pos ks y 0 0
def findK(kd:Int)(s:List UInt8):List Nd→Nat→Nd×Int
 | [],_=>(nd0,-1)
 | d::l,k=>bif decide (d.kind=kd) then (bif decide (d.text=s) then (d,(k:Int)) else findK kd s l (k+1)) else findK kd s l k
def findD(F:Nd)(kd:Int)(s:List UInt8):Nd×Int:=findK kd s F.kids 0
def pointerS(F n:Nd)(S:CSt):CSt:=bif decide (n.kind=8) then failU (!decide ((findD F 2 n.text).2<0)) n.pos 5 S else S
def localS(F n:Nd)(S:CSt):CSt:=failU (Jz (ofF n).1) n.pos 7 (pointerS F n S)
def openS(S:CSt):CSt:={ S with scope:=S.scope+1 }
def dropV(sc:Nat)(l:List Vr):List Vr:=(l.reverse.dropWhile fun v=>decide (v.scope=sc)).reverse
def shutS(S:CSt):CSt:={ S with vars:=dropV S.scope S.vars,scope:=S.scope-1 }
def dupV(S:CSt)(name:List UInt8):Bool:=S.vars.any fun v=>decide (v.scope=S.scope)&&decide (v.name=name)
def declN(S:CSt):Nat:=S.next.getD S.level 0
def declS(name:List UInt8)(y:Ty)(a:Int)(S:CSt):CSt :=
 let S1:=failU (!dupV S name) a 6 S
 { S1 with next:=S.next.set S.level (declN S+1),vars:=S.vars++[⟨name,y,declN S,S.level,S.scope⟩] }
def Jsb(l:List Vr)(s:List UInt8):Option Vr:=l.reverse.find? fun v=>decide (v.name=s)
def Vuc(d:Nd):Ty:=bif decide (((Zb d 0).kids.length:Int)=0)&&decide ((Zb d 1).kind=9) then tFunc else ty0
def lookR(F:Nd)(S:CSt)(n:Nd):Nd×Bool :=
 match Jsb S.vars n.text with
 | some v=>(.mk n.kind n.text v.num n.pos [] v.typ 1 ((S.level:Int)-v.level),true)
 | none =>
  bif decide (0≤(findD F 6 n.text).2) then (.mk n.kind n.text (findD F 6 n.text).2 n.pos [] (ofF (Zb (findD F 6 n.text).1 0)).1 2 0,true)
  else bif decide (0≤(findD F 4 n.text).2) then (.mk n.kind n.text (findD F 4 n.text).2 n.pos [] (Vuc (findD F 4 n.text).1) 3 0,true)
  else (clnT n,false)
structure Ck where
  ex:CSt→Nd×CSt
  mem:CSt→(Nd×Bool)×CSt
  rcv:CSt→Nd×Bool
  cal:CSt→(Nd×List Ty×Ty)×CSt
  st:CSt→Nd×CSt
  blk:CSt→Nd×CSt
  ifs:CSt→Nd×CSt
  sts:CSt→Nd×CSt
  cas:Bool→CSt→Nd×CSt
def ck0:Ck:=⟨fun S=>(nd0,S),fun S=>((nd0,false),S),fun _=>(nd0,false),fun S=>((nd0,[],ty0),S),fun S=>(nd0,S),fun S=>(nd0,S),fun S=>(nd0,S),fun S=>(nd0,S),fun _ S=>(nd0,S)⟩
def wantS(x:Nd)(k a:Int)(S:CSt):CSt:=failU (decide (x.ty.kind=k)) a 7 S
section
variable (F n:Nd) (x:Nat→Ck)
def memR(S:CSt):(Nd×Bool)×CSt :=
 let a:=(x 0).ex S
 bif decide (a.1.ty.kind=4) then
  match (Zma F a.1.ty.name).1.find? fun f=>decide (f.name=n.text) with
  | some f=>((annT n [a.1] f.ty,true),a.2)
  | none=>((annT n [a.1] ty0,false),failS n.pos 5 a.2)
 else ((annT n [a.1] ty0,false),failS n.pos 7 a.2)
def rcvR(S:CSt):Nd×Bool :=
 bif decide (n.kind=27) then ((lookR F S n).1,((lookR F S n).2&&decide ((lookR F S n).1.ref=2))&&decide (8≤(lookR F S n).1.ty.kind))
 else bif decide (n.kind=28) then ((memR F n x S).1.1,((memR F n x S).1.2&&decide ((memR F n x S).2.ee=0))&&decide (8≤(memR F n x S).1.1.ty.kind))
 else (nd0,false)
def argA(ps:List Ty)(S:CSt):Nat→List Nd×CSt
 | 0=>([],S)
 | i+1 =>
  let a:=argA ps S i
  let e:=(x (i+1)).ex a.2
  (a.1++[e.1],failU (!(decide (i<ps.length) && !Vm (ps.getD i ty0) e.1.ty)) (Zb n (i+1)).pos 7 e.2)
def callR(S:CSt):Nd×CSt :=
 let c:=(x 0).cal S
 let a:=argA n x c.1.2.1 (failU (decide ((n.kids.length:Int)-1=c.1.2.1.length)) n.pos 7 c.2) (n.kids.length-1)
 (annT n (c.1.1::a.1) c.1.2.2,a.2)
def litS(S:CSt):CSt:={ S with result:=ty0,level:=S.level+1,next:=S.next.take (S.level+1)++[0] }
def litR(S:CSt):Nd×CSt :=
 let b:=(x 0).blk (litS S)
 (annT n [b.1] tFunc,{ b.2 with level:=b.2.level-1,result:=S.result })
def unTy:Ty:=bif decide (n.text=[33]) then tBool else tInt
def opR(S:CSt):Nd×CSt :=
 let a:=(x 0).ex S
 bif decide (n.kind=29) then
  let b:=(x 1).ex (wantS a.1 5 (Zb n 0).pos a.2)
  (annT n [a.1,b.1] tInt,wantS b.1 1 (Zb n 1).pos b.2)
 else bif decide (n.kind=31) then (annT n [a.1] (unTy n),wantS a.1 (unTy n).kind n.pos a.2)
 else bif decide (n.kind=32) then
  let b:=(x 1).ex a.2
  (annT n [a.1,b.1] (binT n.text a.1.ty b.1.ty).1,failU (binT n.text a.1.ty b.1.ty).2 n.pos 7 b.2)
 else bif decide (n.kind=33) then (annT n [a.1] tInt,wantS a.1 6 n.pos a.2)
 else bif decide (n.kind=37) then (annT n [a.1] tInt,wantS a.1 5 (Zb n 0).pos a.2)
 else bif decide (n.kind=35) then (annT n [a.1] ⟨5,[]⟩,wantS a.1 1 (Zb n 0).pos a.2)
 else bif decide (n.kind=36) then (annT n [a.1] ⟨6,[]⟩,wantS a.1 1 (Zb n 0).pos a.2)
 else (annT n [a.1] ty0,a.2)
def exR(S:CSt):Nd×CSt :=
 bif decide (n.kind=24) then (annT n [] tInt,S)
 else bif decide (n.kind=25) then (annT n [] tBool,S)
 else bif decide (n.kind=26) then (annT n [] tNil,S)
 else bif decide (n.kind=38) then litR n x S
 else bif decide (n.kind=30) then callR n x S
 else bif decide (n.kind=27) then ((lookR F S n).1,bif (lookR F S n).2 then failU (Jz (lookR F S n).1.ty) n.pos 7 S else failS n.pos 5 S)
 else bif decide (n.kind=28) then ((memR F n x S).1.1,failU (!((memR F n x S).1.2 && !Jz (memR F n x S).1.1.ty)) n.pos 7 (memR F n x S).2)
 else bif decide (n.kind=34) then (annT n [] ⟨4,n.text⟩,failU (!decide ((findD F 2 n.text).2<0)) n.pos 5 S)
 else opR n x S
def rcvX(S:CSt):Nd×CSt:=bif decide ((Zb n 0).kind=28) then (((x 0).mem S).1.1,((x 0).mem S).2) else (((x 0).rcv S).1,S)
def calR(S:CSt):(Nd×List Ty×Ty)×CSt :=
 bif decide (n.kind=28)&&((x 0).rcv S).2 then
  let r:=rcvX n x S
  ((annT n [r.1] ty0,(mthF r.1.ty n.text).1,(mthF r.1.ty n.text).2.1),failU (mthF r.1.ty n.text).2.2 n.pos 5 r.2)
 else bif decide (n.kind=27)&&((lookR F S n).2&&decide ((lookR F S n).1.ref=3)) then
  (((lookR F S n).1,(Zb (findD F 4 n.text).1 0).kids.map (fun p=>(ofF (Zb p 0)).1),(ofF (Zb (findD F 4 n.text).1 1)).1),S)
 else
  let a:=exR F n x S
  ((a.1,[],ty0),failU (tyEqB a.1.ty tFunc) n.pos 7 a.2)
def stA(S:CSt):Nat→List Nd×CSt
 | 0=>([],S)
 | i+1 =>
  let a:=stA S i
  let e:=(x i).st a.2
  (a.1++[e.1],e.2)
def stsR(S:CSt):Nd×CSt:=(annT n (stA x S n.kids.length).1 ty0,(stA x S n.kids.length).2)
def blkR(S:CSt):Nd×CSt:=((stsR n x (openS S)).1,shutS (stsR n x (openS S)).2)
def condR(k:Nd)(y:Ck)(S:CSt):Nd×CSt :=
 bif decide (k.kind=9) then (clnT k,S) else ((y.ex S).1,wantS (y.ex S).1 2 k.pos (y.ex S).2)
def ifR(S:CSt):Nd×CSt :=
 let a:=condR (Zb n 0) (x 0) S
 let b:=(x 1).blk a.2
 let e:=bif decide ((Zb n 2).kind=10) then (x 2).blk b.2 else bif decide ((Zb n 2).kind=18) then (x 2).ifs b.2 else (clnT (Zb n 2),b.2)
 (annT n [a.1,b.1,e.1] ty0,e.2)
def asgR(S:CSt):Nd×CSt :=
 let a:=(x 0).ex S
 let b:=(x 1).ex (failU (((decide (a.1.kind=27) && !decide (a.1.ref=3)) || decide (a.1.kind=28)) || decide (a.1.kind=29)) (Zb n 0).pos 7 a.2)
 (annT n [a.1,b.1] ty0,failU (Vm a.1.ty b.1.ty) (Zb n 1).pos 7 b.2)
def casR(first:Bool)(S:CSt):Nd×CSt :=
 let a:=bif decide ((Zb n 0).kind=9) then (clnT (Zb n 0),failU first n.pos 6 (openS S)) else (x 0).st (openS S)
 let b:=(x 1).sts a.2
 (annT n [a.1,b.1] ty0,shutS b.2)
def selA(S:CSt):Nat→List Nd×Bool×CSt
 | 0=>([],true,S)
 | i+1 =>
  let a:=selA S i
  let e:=(x i).cas a.2.1 a.2.2
  (a.1++[e.1],a.2.1 && !decide ((Zb (Zb n i) 0).kind=9),e.2)
def selR(S:CSt):Nd×CSt:=(annT n (selA n x S n.kids.length).1 ty0,(selA n x S n.kids.length).2.2)
def dclT(ks:List Nd)(k:Nat):Nd:=.mk n.kind n.text k n.pos ks ty0 1 0
def varR(S:CSt):Nd×CSt :=
 let a:=bif decide ((Zb n 1).kind=9) then (clnT (Zb n 1),localS F (Zb n 0) S) else (((x 1).ex (localS F (Zb n 0) S)).1,failU (Vm (ofF (Zb n 0)).1 ((x 1).ex (localS F (Zb n 0) S)).1.ty) (Zb n 1).pos 7 ((x 1).ex (localS F (Zb n 0) S)).2)
 (dclT n [plainT (Zb n 0),a.1] (declN a.2),declS n.text (ofF (Zb n 0)).1 n.pos a.2)
def defR(S:CSt):Nd×CSt :=
 let a:=(x 0).ex S
 let S1:=failU (Jz a.1.ty) (Zb n 0).pos 7 a.2
 (dclT n [a.1] (declN S1),declS n.text a.1.ty n.pos S1)
def forR(S:CSt):Nd×CSt :=
 let a:=condR (Zb n 0) (x 0) S
 let b:=(x 1).blk a.2
 (annT n [a.1,b.1] ty0,b.2)
def retR(S:CSt):Nd×CSt :=
 let S1:=failU (!Bool.xor (decide ((n.kids.length:Int)=1)) (!tyEqB S.result ty0)) n.pos 7 S
 bif decide ((n.kids.length:Int)=1) then
  (annT n [((x 0).ex S1).1] ty0,failU (Vm ((x 0).ex S1).2.result ((x 0).ex S1).1.ty) (Zb n 0).pos 7 ((x 0).ex S1).2)
 else (annT n [] ty0,S1)
def stR(S:CSt):Nd×CSt :=
 bif decide (n.kind=10) then blkR n x S
 else bif decide (n.kind=18) then ifR n x S
 else bif decide (n.kind=12) then asgR n x S
 else bif decide (n.kind=22) then selR n x S
 else bif decide (n.kind=6) then varR F n x S
 else bif decide (n.kind=11) then defR n x S
 else bif decide (n.kind=19) then forR n x S
 else bif decide (n.kind=20) then retR n x S
 else
  let a:=(x 0).ex S
  bif decide (n.kind=16) then
   let b:=(x 1).ex (wantS a.1 6 (Zb n 0).pos a.2)
   (annT n [a.1,b.1] ty0,wantS b.1 1 (Zb n 1).pos b.2)
  else bif decide (n.kind=17) then (annT n [a.1] ty0,wantS a.1 6 (Zb n 0).pos a.2)
  else bif decide (n.kind=21) then (annT n [a.1] ty0,failU (decide (a.1.ty.kind=1) || decide (a.1.ty.kind=2)) (Zb n 0).pos 7 a.2)
  else (annT n [a.1] ty0,a.2)
end
def ckF(F t:Nd)(x:Nat→Ck):Ck:=⟨exR F t x,memR F t x,rcvR F t x,calR F t x,stR F t x,blkR t x,ifR t x,stsR t x,casR t x⟩
def ckT(F t:Nd):Ck:=para (fun t l=>ckF F t fun i=>l.getD i ck0) t
def ckX(F t:Nd)(i:Nat):Ck:=(t.kids.map (ckT F)).getD i ck0
theorem Yxa(F t:Nd):ckT F t=ckF F t (ckX F t):=Yaa _ t
theorem Vv{F t:Nd}{i:Nat}(h:i<t.kids.length):ckX F t i=ckT F (Zb t i):=by
 rw [ckX,Wc h];simp [List.getD_eq_getElem?_getD,List.getElem?_eq_getElem h]
/-! the file -/
def parA(F p:Nd)(S:CSt):Nat→List Nd×CSt
 | 0=>([],S)
 | i+1 =>
  let a:=parA F p S i
  let f:=Zb p i
  (a.1++[.mk f.kind f.text (declN a.2) f.pos (f.kids.map plainT) ty0 1 0],localS F (Zb f 0) (declS f.text (ofF (Zb f 0)).1 f.pos a.2))
def endP(t:Nd)(l:List (Bool×Bool)):Bool×Bool :=
 (bif decide (t.kind=20) then true
  else bif decide (t.kind=19) then decide ((Zb t 0).kind=9)
  else bif decide (t.kind=10) then (l.getLast?.getD (false,false)).1
  else bif decide (t.kind=18) then (l.getD 1 (false,false)).2&&((decide ((Zb t 2).kind=10)&&(l.getD 2 (false,false)).2) || (decide ((Zb t 2).kind=18)&&(l.getD 2 (false,false)).1))
  else false,(l.getLast?.getD (false,false)).1)
def endT(t:Nd):Bool×Bool:=para endP t
theorem Zmc(t:Nd):endT t=endP t (t.kids.map endT):=Yaa _ t
def endsL(l:List Nd):Bool:=((l.map endT).getLast?.getD (false,false)).1
theorem Zdf(t:Nd):(endT t).2=endsL t.kids:=by rw [Zmc];rfl
def funS0(S:CSt):CSt:={ S with vars:=[],scope:=0,level:=0,next:=[0] }
def funS1(F n:Nd)(S:CSt):CSt:={ (parA F (Zb n 0) (funS0 S) (Zb n 0).kids.length).2 with result:=ty0 }
def funS2(F n:Nd)(S:CSt):CSt:=bif decide ((Zb n 1).kind=9) then funS1 F n S else { localS F (Zb n 1) (funS1 F n S) with result:=(ofF (Zb n 1)).1 }
def funR(F n:Nd)(S:CSt):Nd×CSt :=
 let b:=(ckT F (Zb n 2)).sts (funS2 F n S)
 (annT n [annT (Zb n 0) (parA F (Zb n 0) (funS0 S) (Zb n 0).kids.length).1 ty0,plainT (Zb n 1),b.1] ty0,
  failU (decide ((Zb n 1).kind=9) || endsL (Zb n 2).kids) n.pos 7 b.2)
def dupAt(n:Nd)(i:Nat):Bool:=(n.kids.take i).any fun k=>decide (k.text=(Zb n i).text)
def namA(n:Nd)(S:CSt):Nat→CSt
 | 0=>S
 | i+1=>failU (!dupAt n i) (Zb n i).pos 6 (namA n S i)
def strA(F n:Nd)(S:CSt):Nat→CSt
 | 0=>S
 | i+1=>pointerS F (Zb (Zb n i) 0) (failU (!dupAt n i) (Zb n i).pos 6 (strA F n S i))
def dclR(F n:Nd)(S:CSt):Nd×CSt :=
 bif decide (n.kind=2) then (plainT n,strA F n S n.kids.length)
 else bif decide (n.kind=6) then (plainT n,pointerS F (Zb n 0) S)
 else bif decide (n.kind=4) then funR F n S
 else (plainT n,S)
def dclA(F:Nd)(S:CSt):Nat→List Nd×CSt
 | 0=>([],S)
 | i+1 =>
  let a:=dclA F S i
  let e:=dclR F (Zb F i) a.2
  (a.1++[e.1],e.2)
def rs0:CSt:=⟨[],0,0,[],ty0,0,0⟩
def Xcf(F:Nd)(S:CSt):CSt :=
 bif decide ((findD F 4 [109,97,105,110]).2<0) then failS 0 5 S
 else bif decide (0<((Zb (findD F 4 [109,97,105,110]).1 0).kids.length:Int)) || !decide ((Zb (findD F 4 [109,97,105,110]).1 1).kind=9) then failS (findD F 4 [109,97,105,110]).1.pos 7 S else S
def refS(F:Nd):CSt:=Xcf F (dclA F (namA F rs0 F.kids.length) F.kids.length).2
def refA(F:Nd):Nd:=annT F (dclA F (namA F rs0 F.kids.length) F.kids.length).1 ty0
def refCheck(F:Nd):Nd×Int×Int :=
 bif validB F then (bif decide ((refS F).ee=0) then (refA F,0,0) else (nd0,(refS F).ea,(refS F).ee)) else (nd0,0,1)
section
variable {w w':World} {base:Nat} {e:TypeId} {z m q:Nat} {v:Value} {o:Option Addr} {xs:List Value}
theorem Xdf{j:Nat}(h:w.ownsRow base e z (.slice o m q) m xs)(hj:j≤m):w.ownsRow base e z (.slice o j q) j (xs.take (j*z)):=by
 have hl:j*z≤m*z:=Nat.mul_le_mul_right z hj;refine ⟨by rw [List.length_take,h.1];omega,?_⟩;rcases h.2 with ⟨h1,h2⟩|⟨g,cap,cur,h1,h2,h3,h4,h5,h6,h7⟩;injection h1 with e1 e2 e3;subst e1;subst e3;exact .inl ⟨by rw [show j=0 by omega],by omega⟩;injection h1 with e1 e2 e3;subst e1;subst e3;exact .inr ⟨g,q,cur,rfl,h2,h3,by omega,h5,h6,by rw [← h7,List.take_take,Nat.min_eq_left hl]⟩
theorem Jcd(h:w.ownsRow base e z v m xs)(hm:0<m):∃ g c l,v = .slice (some ⟨g,0,none⟩) m c∧base≤g∧Blk w g e l∧m≤c∧l.length=c*z∧l.take (m*z)=xs∧
 ∀ w' l',Blk w' g e l'→l'.length=c*z→w'.ownsRow base e z v m (l'.take (m*z)):=by
 rcases h.2 with ⟨_,h2⟩|⟨g,cap,cur,h1,h2,h3,h4,h5,h6,h7⟩;omega;refine ⟨g,cap,cur.toList,h1,h2,by simpa [Blk] using h3,h4,by simpa using h6,h7,fun w' l' hB hl=>⟨?_,.inr ⟨g,cap,l'.toArray,h1,h2,hB,h4,h5,by simpa using hl,by simp⟩⟩⟩;rw [List.length_take,hl];have:=Nat.mul_le_mul_right z h4;omega
theorem take_set{α:Type}(l:List α)(i n:Nat)(u:α)(h:i<n):(l.set i u).take n=(l.take n).set i u:=by
 rw [List.take_set]
end
def mutR(e:Nat):Bool:=Nat.beq e Vb || (Nat.beq e Xq || Nat.beq e Yrb)
def ckCells(F:Nd)(fv sv sn:Value)(S:CSt):List Value:=ndCells F fv++[sv,.int .i64 S.scope,.int .i64 S.level,sn,.int .i64 S.result.kind,Str S.result.name,.int .i64 S.ea,.int .i64 S.ee]
structure CK (F:Nd) (n0 b:Nat) (S:CSt) (fv sv sn:Value) (w:World):Prop where
  B:Blk w b Vb (ckCells F fv sv sn S)
  hb:n0≤b
  kF:Kd w (fun k=>k<n0) F.kids fv
  hF:count F≤1000000
  ov:w.ownsRow n0 Xq 6 sv S.vars.length (S.vars.flatMap vrCells)
  on:w.ownsRow n0 Yrb 1 sn S.next.length (S.next.map fun (k:Nat)=>Value.int .i64 (k:Int))
def Chk(F:Nd)(n0 b:Nat)(S:CSt)(w:World):Prop:=∃ fv sv sn,CK F n0 b S fv sv sn w
section
variable {F:Nd} {n0 b:Nat} {S S':CSt} {fv sv sn sv' sn':Value} {w w' w1 w2:World}
theorem Zna{e e':TypeId}{z m j:Nat}{v:Value}{xs l:List Value}(h:w.ownsRow n0 e z v m xs)(hB:Blk w j e' l)(he:Nat.beq e e'=false):v.ownBlock≠some j:=fun hk=>by
 rcases h.2 with ⟨h1,_⟩|⟨g,cap,cur,h1,h2,h3,_⟩;rw [h1] at hk;cases hk;rw [h1] at hk;have:g=j:=by injection hk
 subst this;unfold Blk at hB;rw [hB] at h3;injection h3 with h3;injection h3 with _ h3;subst h3;simp at he
theorem Zef{e e':TypeId}{z z' m m':Nat}{v v':Value}{xs xs':List Value}(h:w.ownsRow n0 e z v m xs)(h':w.ownsRow n0 e' z' v' m' xs')(he:Nat.beq e e'=false):v.ownBlock=none∨v.ownBlock≠v'.ownBlock:=by
 rcases h.2 with ⟨h1,_⟩|⟨g,cap,cur,h1,h2,h3,_⟩;exact .inl (by rw [h1];rfl);refine .inr fun hk=>?_;rcases h'.2 with ⟨h1',_⟩|⟨g',cap',cur',h1',h2',h3',_⟩;rw [h1,h1'] at hk;cases hk;rw [h1,h1'] at hk;have:g=g':=by injection hk
 subst this;rw [h3] at h3';injection h3' with h3';injection h3' with _ h3';subst h3';simp at he
theorem Zjg{M:Nat→Bool}{e:TypeId}{z m:Nat}{v:Value}{xs:List Value}{row:Option Nat}(h:w.ownsRow n0 e z v m xs)(he:M e=true)(hg:w.grownBy w' row)(hr:∀ k,row=some k→¬ TyR M w k):w'.ownsRow n0 e z v m xs:=by
 have ht:=Zjc h he;refine Xw h hg ?_;rcases h.2 with ⟨h1,_⟩|⟨g,cap,cur,h1,_⟩;exact .inl (by rw [h1];rfl);refine .inr fun hk=>?_;have hv:v.ownBlock=some g:=by rw [h1];rfl
 exact hr g (hk.symm.trans hv) (ht g hv).2
theorem Wgc(w:World)(row:Option Nat):w.grownBy w row:=⟨rfl,rfl,rfl,Nat.le_refl _,fun _ _ _=>rfl⟩
theorem CK.lt(h:CK F n0 b S fv sv sn w):n0≤b∧b<w.heap.size:=⟨h.hb,h.B.lt⟩
theorem CK.grow(h:CK F n0 b S fv sv sn w)(g:G w w'):CK F n0 b S fv sv sn w':=⟨h.B.grow g,h.hb,h.kF.grow g,h.hF,Xz h.ov g,Xz h.on g⟩
theorem CK.keepr{row:Option Nat}(h:CK F n0 b S fv sv sn w)(hg:w.grownBy w' row)(hr:∀ k,row=some k→n0≤k∧¬ TyR mutR w k):CK F n0 b S fv sv sn w' :=
 ⟨h.B.keep hg (fun e=>(hr b e.symm).2 (Ywf h.B rfl)),h.hb,h.kF.keep hg fun k hk _ e=>by have:=(hr k e.symm).1;omega,h.hF,Zjg h.ov rfl hg fun k hk=>(hr k hk).2,Zjg h.on rfl hg fun k hk=>(hr k hk).2⟩
theorem Zkb(v:Vr):(vrCells v).length=6:=rfl
def vr0:Vr:=⟨[],ty0,0,0,0⟩
def lst(l:List Vr):Vr:=l.getLast?.getD vr0
theorem Yoe{l:List Vr}(h:w.ownsRow n0 Xq 6 sv l.length (l.flatMap vrCells)):∃ p c,sv = .slice p l.length c∧l.length≤c∧∀ i,(hi:i<l.length)→p=some ⟨pb p,po p,none⟩∧RowAt w (pb p) (po p+i*6) (vrCells l[i]):=by
 obtain ⟨p,c,hv,hc⟩:=Voa h;refine ⟨p,c,hv,hc,fun i hi=>?_⟩;obtain ⟨g,c',hv',_,hR,_⟩:=Uya h (by omega);rw [hv] at hv';injection hv' with e1 _ _;subst e1;exact ⟨rfl,Zhc Zkb hR hi⟩
theorem Zkg{l:List Vr}{p:Option Addr}{c:Nat}(h:w.ownsRow n0 Xq 6 (.slice p l.length c) l.length (l.flatMap vrCells)):w.ownsRow n0 Xq 6 (.slice p l.dropLast.length c) l.dropLast.length (l.dropLast.flatMap vrCells):=by
 have hx:=Xdf h (j:=l.dropLast.length) (by simp)
 have e:(l.flatMap vrCells).take (l.dropLast.length*6)=l.dropLast.flatMap vrCells:=by
  rcases List.eq_nil_or_concat l with e|⟨a,x,e⟩;subst e;rfl;subst e;rw [List.concat_eq_append,List.dropLast_concat,List.flatMap_append,← Qla Zkb a,List.take_left]
 rwa [e] at hx
theorem CK.chk(h:CK F n0 b S fv sv sn w):Chk F n0 b S w:=⟨_,_,_,h⟩
theorem Chk.lt(h:Chk F n0 b S w):n0≤b∧b<w.heap.size:=by obtain ⟨_,_,_,h⟩:=h;exact h.lt
theorem Chk.grow(h:Chk F n0 b S w)(g:G w w'):Chk F n0 b S w':=by obtain ⟨_,_,_,h⟩:=h;exact (h.grow g).chk
theorem Chk.keepr{row:Option Nat}(h:Chk F n0 b S w)(hg:w.grownBy w' row)(hr:∀ k,row=some k→n0≤k∧¬ TyR mutR w k):Chk F n0 b S w':=by obtain ⟨_,_,_,h⟩:=h;exact (h.keepr hg hr).chk
theorem CK.keep{j:Nat}{e:TypeId}{l:List Value}(h:CK F n0 b S fv sv sn w)(hg:w.grownBy w' (some j))(hB:Blk w j e l)(he:mutR e=false)(hj:n0≤j):CK F n0 b S fv sv sn w' :=
 h.keepr hg fun k hk=>by injection hk with hk;subst hk;exact ⟨hj,Vhe hB he⟩
theorem Chk.keep{j:Nat}{e:TypeId}{l:List Value}(h:Chk F n0 b S w)(hg:w.grownBy w' (some j))(hB:Blk w j e l)(he:mutR e=false)(hj:n0≤j):Chk F n0 b S w':=by obtain ⟨_,_,_,h⟩:=h;exact (h.keep hg hB he hj).chk
theorem CK.keepO{X:List Nat}{lo:Nat}{ks:List Nd}{s:Value}(h:CK F n0 b S fv sv sn w)(hg:w.grownBy w' s.ownBlock)(hO:OwnN X lo w ks s)(hj:n0≤lo):CK F n0 b S fv sv sn w' :=
 h.keepr hg fun k hk=>⟨Nat.le_trans hj (hO.ge k hk),(hO.nd k hk).ntyr rfl⟩
theorem Chk.keepO{X:List Nat}{lo:Nat}{ks:List Nd}{s:Value}(h:Chk F n0 b S w)(hg:w.grownBy w' s.ownBlock)(hO:OwnN X lo w ks s)(hj:n0≤lo):Chk F n0 b S w':=by obtain ⟨_,_,_,h⟩:=h;exact (h.keepO hg hO hj).chk
theorem CK.set(h:CK F n0 b S fv sv sn w)(hg:w.grownBy w' (some b))(hB:Blk w' b Vb (ckCells F fv sv sn S'))(hv:S'.vars=S.vars)(hn:S'.next=S.next):CK F n0 b S' fv sv sn w' :=
 ⟨hB,h.hb,h.kF.keep hg fun k hk _ e=>by injection e with e;have:=h.hb;omega,h.hF,by rw [hv];exact Xw h.ov hg (.inr (Zna h.ov h.B rfl)),by rw [hn];exact Xw h.on hg (.inr (Zna h.on h.B rfl))⟩
theorem CK.rowv(h:CK F n0 b S fv sv sn w)(hg:w.grownBy w1 sv.ownBlock):Blk w1 b Vb (ckCells F fv sv sn S)∧Kd w1 (fun k=>k<n0) F.kids fv∧w1.ownsRow n0 Yrb 1 sn S.next.length (S.next.map fun (k:Nat)=>Value.int .i64 (k:Int)) :=
 ⟨h.B.keep hg (fun e=>Zna h.ov h.B rfl e.symm),h.kF.keep hg fun k hk _ e=>by have:=(Zjc (M:=mutR) h.ov rfl k e.symm).1;omega,Xw h.on hg (Zef h.on h.ov rfl)⟩
theorem CK.rown(h:CK F n0 b S fv sv sn w)(hg:w.grownBy w1 sn.ownBlock):Blk w1 b Vb (ckCells F fv sv sn S)∧Kd w1 (fun k=>k<n0) F.kids fv∧w1.ownsRow n0 Xq 6 sv S.vars.length (S.vars.flatMap vrCells) :=
 ⟨h.B.keep hg (fun e=>Zna h.on h.B rfl e.symm),h.kF.keep hg fun k hk _ e=>by have:=(Zjc (M:=mutR) h.on rfl k e.symm).1;omega,Xw h.ov hg (Zef h.ov h.on rfl)⟩
theorem CK.setv(h:CK F n0 b S fv sv sn w)(hg:w.grownBy w1 sv.ownBlock)(hO:w1.ownsRow n0 Xq 6 sv' S'.vars.length (S'.vars.flatMap vrCells))(hg2:w1.grownBy w2 (some b))(hB:Blk w2 b Vb (ckCells F fv sv' sn S'))(hn:S'.next=S.next):CK F n0 b S' fv sv' sn w2:=by
 obtain ⟨q1,q2,q3⟩:=h.rowv hg;exact ⟨hB,h.hb,q2.keep hg2 fun k hk _ e=>by injection e with e;have:=h.hb;omega,h.hF,Xw hO hg2 (.inr (Zna hO q1 rfl)),by rw [hn];exact Xw q3 hg2 (.inr (Zna q3 q1 rfl))⟩
theorem CK.setn(h:CK F n0 b S fv sv sn w)(hg:w.grownBy w1 sn.ownBlock)(hO:w1.ownsRow n0 Yrb 1 sn' S'.next.length (S'.next.map fun (k:Nat)=>Value.int .i64 (k:Int)))(hg2:w1.grownBy w2 (some b))(hB:Blk w2 b Vb (ckCells F fv sv sn' S'))(hv:S'.vars=S.vars):CK F n0 b S' fv sv sn' w2:=by
 obtain ⟨q1,q2,q3⟩:=h.rown hg;exact ⟨hB,h.hb,q2.keep hg2 fun k hk _ e=>by injection e with e;have:=h.hb;omega,h.hF,by rw [hv];exact Xw q3 hg2 (.inr (Zna q3 q1 rfl)),Xw hO hg2 (.inr (Zna hO q1 rfl))⟩
theorem CK.elt(h:CK F n0 b S fv sv sn w)(hg:w.grownBy w1 sn.ownBlock)(hO:w1.ownsRow n0 Yrb 1 sn S'.next.length (S'.next.map fun (k:Nat)=>Value.int .i64 (k:Int)))(hS:S' = { S with next:=S'.next }):CK F n0 b S' fv sv sn w1:=by
 obtain ⟨q1,q2,q3⟩:=h.rown hg;rw [hS];exact ⟨q1,h.hb,q2,h.hF,q3,hO⟩
end
def OwF{α:Type}(f:α→List Value)(e:TypeId)(z base:Nat)(w:World)(ks:List α)(s:Value):Prop:=w.ownsRow base e z s ks.length (ks.flatMap f)∧(ks=[]→s = .slice none 0 0)
def RetF{α:Type}(f:α→List Value)(w:World)(ks:List α)(s:Value):Prop:=RowF f w ks s∧(ks=[]→s = .slice none 0 0)
section
variable {α:Type} {f:α→List Value} {e:TypeId} {z base:Nat} {w w':World} {ks:List α} {s:Value}
theorem Vvc(w:World):OwF f e z base w [] (.slice none 0 0):=⟨Zja _ _ _ _,fun _=>rfl⟩
theorem OwF.grow(h:OwF f e z base w ks s)(g:G w w'):OwF f e z base w' ks s:=⟨Xz h.1 g,h.2⟩
theorem OwF.keep(h:OwF f e z base w ks s){j:Nat}{e':TypeId}{l:List Value}(hg:w.grownBy w' (some j))(hB:Blk w j e' l)(he:Nat.beq e e'=false):OwF f e z base w' ks s:=⟨Xw h.1 hg (.inr (Zna h.1 hB he)),h.2⟩
theorem OwF.keepM(h:OwF f e z base w ks s){j:Nat}{l:List Value}(hg:w.grownBy w' (some j))(hB:MapB w j l):OwF f e z base w' ks s:=by
 refine ⟨Xw h.1 hg (.inr fun hk=>?_),h.2⟩;obtain ⟨es,c,hb,_⟩:=hB;rcases h.1.2 with ⟨h1,_⟩|⟨g,cap,cur,h1,h2,h3,_⟩;rw [h1] at hk;cases hk;rw [h1] at hk;have:g=j:=by injection hk
 subst this;rw [hb] at h3;injection h3 with h3;cases h3
theorem OwF.keepB(h:OwF f e z base w ks s){j:Nat}(hg:w.grownBy w' (some j))(hne:∀ k,s.ownBlock=some k→k≠j):OwF f e z base w' ks s :=
 ⟨Xw h.1 hg (.inr fun hk=>hne j hk rfl),h.2⟩
theorem OwF.nnew(h:OwF f e z base w ks s){j:Nat}{e':TypeId}{l:List Value}(N:New w w' j e' l):∀ k,s.ownBlock=some k→k≠j:=fun k hk he=>by
 have:=(h.1.lt k hk).2;have:=N.at_;omega
theorem OwF.ge(h:OwF f e z base w ks s):∀ k,s.ownBlock=some k→base≤k:=fun k hk=>(h.1.lt k hk).1
theorem OwF.lt(h:OwF f e z base w ks s):∀ k,s.ownBlock=some k→k<w.heap.size:=fun k hk=>(h.1.lt k hk).2
theorem OwF.slice(h:OwF f e z base w ks s):∃ a c,s = .slice a ks.length c:=by
 obtain ⟨a,c,h2,_⟩:=Voa h.1;exact ⟨a,c,h2⟩
theorem OwF.ret(h:OwF f e z base w ks s):RetF f w ks s:=⟨Wgd h.1 rfl,h.2⟩
theorem RetF.grow(h:RetF f w ks s)(g:G w w'):RetF f w' ks s:=⟨h.1.grow g,h.2⟩
theorem RetF.slice(h:RetF f w ks s):∃ a c,s = .slice a ks.length c:=by
 obtain ⟨a,c,h2,_⟩:=h.1;exact ⟨a,c,h2⟩
theorem Qma{b:Nat}{x:α}{l:List Value}(h:Blk w b e l)(hl:l=f x):RetF f w [x] (.slice (some ⟨b,0,none⟩) 1 1) :=
 ⟨Jpf (l:=[x]) h (by rw [hl];simp) (Nat.le_refl _),fun h=>by cases h⟩
theorem RowF.opt(hf:∀ a,(f a).length=z){p:Option Addr}{n c:Nat}(h:RowF f w ks (.slice p n c)){i:Nat}(hi:i<ks.length):p=some ⟨pb p,po p,none⟩∧RowAt w (pb p) (po p+i*z) (f ks[i]):=by
 obtain ⟨p',c',e1,_,h2⟩:=h;injection e1 with e1 _ _;subst e1;obtain ⟨b,o,rfl,hR⟩:=h2 (by omega);exact ⟨rfl,Zhc hf hR hi⟩
end
section
variable {P:Program} {Z:List PanicEntry→Act→World→Prop} {ops:List Oper} {cl:List Nat} {lv:List Bool} {W0:World} {n:Nat} {K:Act→World→Prop} {k:Nat} {rest:List Oper} {σ:List Ent} {w:World} {d:Nat} {ty:TypeId} {pos:String} {after:Array Edge}
theorem Xwa{α:Type}{f:α→List Value}{t e z by_ base:Nat}{x y:Operand}{s v zv:Value}{ks ls:List α}(hb:(Nat.beq (clOf cl k) 2&&Nat.blt d n)=true)(ht:tyElem P t=some (e,z,by_))(hzv:zeroOf P e=some zv)
 (hzs:zv.cells.size=z) (hz:Nat.blt 0 z=true) (hf:∀ a,(f a).length=z) (hx:Ev n σ True x s) (hO:OwF f e z base w ks s) (hy:Ev n σ True y v) (hR:RetF f w ls v) (h1:onesB (ls.flatMap f)=true)
 (hlen:ks.length+ls.length≤10000000) (hby:Nat.ble by_ 1000=true) (hbase:base≤w.heap.size)
 (h:∀ a' c' w',OwF f e z base w' (ks++ls) (.slice a' (ks++ls).length c')→w.grownBy w' s.ownBlock→SR P Z ops cl lv W0 n K (k+1) rest ((d,True,.slice a' (ks++ls).length c') :: σ) w') :
 SR P Z ops cl lv W0 n K k (⟨some d,.call { callee:=.builtin .append,args:=#[x,y],argTypes:=#[t,t] },ty,pos,after,none⟩::rest) σ w:=by
 by_cases hl:ls=[];subst hl;have:=hR.2 rfl;subst this;obtain ⟨a,c,rfl,hmc⟩:=Voa hO.1;have h':=h a c w;simp only [List.append_nil] at h';exact Whd hb ht hx hmc hy (h' hO (Qrd _ _));obtain ⟨p,c,rfl,_,h2⟩:=hR.1;obtain ⟨b,o,rfl,hr⟩:=h2 (List.length_pos_iff.2 hl);have hby:=Nat.le_of_ble_eq_true hby;refine Jg hb ht hzv hzs (by rw [Nat.blt_eq] at hz;exact hz) hx hO.1 hy (Qla hf ls) hr h1 (by simp only [maxLen];omega) ?_ hbase fun a' c' w' ho hg hat=>?_
 calc (ks.length+ls.length)*by_≤10000000*1000:=Nat.mul_le_mul hlen hby
  _≤140737488355328:=by decide
 have h':=h a' c' w';rw [List.length_append] at h';exact h' ⟨by rw [List.flatMap_append,List.length_append];exact ho,fun e=>absurd (List.append_eq_nil_iff.1 e).2 hl⟩ hg
end
/-! captures -/
def capCells(c:Int×Int):List Value:=[.int .i64 c.1,.int .i64 c.2]
theorem Uz(c:Int×Int):(capCells c).length=2:=rfl
def Vwc(u:(Nd×Int)×Option Addr×Nat×Nat):List Value:=ndCells u.1.1 (.slice u.2.1 u.2.2.1 u.2.2.2)++[.int .i64 u.1.2]
theorem Zwa(u:(Nd×Int)×Option Addr×Nat×Nat):(Vwc u).length=10:=rfl
structure Lc where
  name:List UInt8
  typ:Ty
  par:Bool
  box:Bool
def lcCells(v:Lc):List Value:=[Str v.name,.int .i64 v.typ.kind,Str v.typ.name,.bool v.par,.bool v.box]
theorem Ux(v:Lc):(lcCells v).length=5:=rfl
theorem Zoa{α:Type}{f:α→List Value}(hf:∀ a,onesB (f a)=true):∀ l:List α,onesB (l.flatMap f)=true
 | []=>rfl
 | a::l=>by
  have:=Zoa hf l;have h1:=hf a;unfold onesB at this h1 ⊢;rw [List.flatMap_cons,List.all_append,h1,this];rfl
theorem Voe:∀ c,onesB (capCells c)=true:=fun c=>rfl
theorem Jtb:∀ u,onesB (Vwc u)=true:=fun u=>rfl
theorem Vxc:∀ v,onesB (lcCells v)=true:=fun v=>rfl
def upL(k:Nd)(v:Int):Int:=bif decide (k.kind=38) then v+1 else v
mutual
def visN:Nd→Int→List (Nd×Int)
 | .mk _ _ _ _ ks _ _ _,v=>visL ks v
def visL:List Nd→Int→List (Nd×Int)
 | [],_=>[]
 | k::ks,v=>(k,v)::(visN k (upL k v)++visL ks v)
end
theorem Xef(v:Int):∀ l,visL l v=l.flatMap fun k=>(k,v)::visN k (upL k v)
 | []=>rfl
 | k::ks=>by rw [visL,Xef v ks];rfl
theorem Xma(t:Nd)(v:Int):visN t v=t.kids.flatMap fun k=>(k,v)::visN k (upL k v):=by
 cases t;rw [visN,Xef];rfl
theorem Ucg(k:Nd)(v c:Int):upL k (v+c)=upL k v+c:=by
 unfold upL;cases decide (k.kind=38);rfl;show v+c+1=v+1+c;omega
theorem Zff(c:Int):∀ (t:Nd) (v:Int),visN t (v+c)=(visN t v).map fun x=>(x.1,x.2+c):=by
 refine Nd.ind fun t ih v=>?_;rw [Xma,Xma,List.map_flatMap]
 have e:∀ l:List Nd,(∀ k∈l,k∈t.kids)→(l.flatMap fun k=>(k,v+c)::visN k (upL k (v+c)))=l.flatMap fun k=>((k,v)::visN k (upL k v)).map fun x=>(x.1,x.2+c):=by
  intro l hl
  induction l with
  | nil=>rfl
  | cons k l il =>
   rw [List.flatMap_cons,List.flatMap_cons,il fun k hk=>hl k (List.mem_cons_of_mem _ hk),Ucg,ih k (hl k List.mem_cons_self)];rfl
 exact e t.kids fun _ h=>h
theorem Ype:∀ (t:Nd) (v:Int),∀ x∈visN t v,v≤x.2:=by
 refine Nd.ind fun t ih v x hx=>?_;rw [Xma] at hx;obtain ⟨k,hk,hx⟩:=List.mem_flatMap.1 hx;rcases List.mem_cons.1 hx with e|hx;subst e;exact Int.le_refl _;refine Int.le_trans ?_ (ih k hk _ x hx);unfold upL;cases decide (k.kind=38);exact Int.le_refl _;exact Int.le_of_lt (Int.lt_succ v)
theorem Udg:∀ (t:Nd) (v:Int),∀ x∈visN t v,x.2<v+count t:=by
 refine Nd.ind fun t ih v x hx=>?_;rw [Xma] at hx;obtain ⟨k,hk,hx⟩:=List.mem_flatMap.1 hx;have hc:=Jp hk;have h1:=Uo k;rcases List.mem_cons.1 hx with e|hx;subst e;show v<v+(count t:Int);omega;have:=ih k hk _ x hx;unfold upL at this;cases h:decide (k.kind=38);rw [h,cond_false] at this;omega;rw [h,cond_true] at this;omega
def ownN(t:Nd):List Nd:=para (fun t l=>(t.kids.zip l).flatMap fun x=>x.1::bif decide (x.1.kind=38) then [] else x.2) t
theorem Yqe(t:Nd):ownN t=t.kids.flatMap fun k=>k::bif decide (k.kind=38) then [] else ownN k:=by
 unfold ownN;rw [Yaa];generalize t.kids=l
 induction l with
 | nil=>rfl
 | cons k l ih=>rw [List.map_cons,List.zip_cons_cons,List.flatMap_cons,ih,List.flatMap_cons]
theorem Vpe{α:Type}{p:α→Bool}{l:List α}(h:∀ x∈l,p x=false):l.filter p=[]:=List.filter_eq_nil_iff.2 fun x hx=>by rw [h x hx];decide
theorem Vyc:∀ (t:Nd) (v:Int),((visN t v).filter fun x=>decide (x.2≤v)).map Prod.fst=ownN t:=by
 refine Nd.ind fun t ih v=>?_;rw [Xma,Yqe]
 have e:∀ l:List Nd,(∀ k∈l,k∈t.kids)→((l.flatMap fun k=>(k,v)::visN k (upL k v)).filter fun x=>decide (x.2≤v)).map Prod.fst=l.flatMap fun k=>k::bif decide (k.kind=38) then [] else ownN k:=by
  intro l hl
  induction l with
  | nil=>rfl
  | cons k l il =>
   rw [List.flatMap_cons,List.flatMap_cons,List.filter_append,List.map_append,il fun k hk=>hl k (List.mem_cons_of_mem _ hk)];congr 1;rw [List.filter_cons_of_pos (by simp),List.map_cons];congr 1;cases h:decide (k.kind=38);have q:=ih k (hl k List.mem_cons_self) v;unfold upL;rw [h];exact q;rw [Vpe fun x hx=>?_];rfl;have:=Ype k _ x hx;unfold upL at this;rw [h,cond_true] at this;simp;omega
 exact e t.kids fun _ h=>h
def litN(t:Nd):List Nd:=para (fun t l=>(t.kids.zip l).flatMap fun x=>(bif decide (x.1.kind=38) then [x.1] else [])++x.2) t
theorem Yre(t:Nd):litN t=t.kids.flatMap fun k=>(bif decide (k.kind=38) then [k] else [])++litN k:=by
 unfold litN;rw [Yaa];generalize t.kids=l
 induction l with
 | nil=>rfl
 | cons k l ih=>rw [List.map_cons,List.zip_cons_cons,List.flatMap_cons,ih,List.flatMap_cons]
theorem Vqe:∀ (t:Nd) (v:Int),((visN t v).filter fun x=>decide (x.1.kind=38)).map Prod.fst=litN t:=by
 refine Nd.ind fun t ih v=>?_;rw [Xma,Yre]
 have e:∀ l:List Nd,(∀ k∈l,k∈t.kids)→((l.flatMap fun k=>(k,v)::visN k (upL k v)).filter fun x=>decide (x.1.kind=38)).map Prod.fst=l.flatMap fun k=>(bif decide (k.kind=38) then [k] else [])++litN k:=by
  intro l hl
  induction l with
  | nil=>rfl
  | cons k l il =>
   rw [List.flatMap_cons,List.flatMap_cons,List.filter_append,List.map_append,il fun k hk=>hl k (List.mem_cons_of_mem _ hk)];congr 1;rw [List.filter_cons,← ih k (hl k List.mem_cons_self) (upL k v)];cases h:decide (k.kind=38) <;> rfl
 exact e t.kids fun _ h=>h
def useB(k:Nd):Bool:=decide (k.kind=27)&&decide (k.ref=1)
def useN(t:Nd)(v:Int):List (Nd×Int):=(visN t v).filter fun x=>useB x.1
theorem Xff(t:Nd)(v:Int):useN t v=t.kids.flatMap fun k=>(bif useB k then [(k,v)] else [])++useN k (upL k v):=by
 unfold useN;rw [Xma];generalize t.kids=l
 induction l with
 | nil=>rfl
 | cons k l il =>
  rw [List.flatMap_cons,List.flatMap_cons,List.filter_append,il,List.filter_cons];cases useB k <;> rfl
def capC(x:Nd×Int):Int×Int:=(IntKind.i64.wrap (x.1.up-x.2),x.1.num)
def capS(o:List (Int×Int))(x:Nd×Int):List (Int×Int):=bif decide (0<(capC x).1) && !decide (capC x∈o) then o++[capC x] else o
def capL(l:List (Nd×Int)):List (Int×Int):=l.foldl capS []
def capW(o:List (Int×Int))(x:Nd×Int):List (Int×Int):=bif useB x.1 then capS o x else o
theorem Zlg(l:List (Nd×Int))(o:List (Int×Int)):l.foldl capW o=(l.filter fun x=>useB x.1).foldl capS o:=by
 induction l generalizing o with
 | nil=>rfl
 | cons x l ih =>
  rw [List.foldl_cons,List.filter_cons,ih];unfold capW;cases useB x.1 <;> rfl
def capT(t:Nd):List (Int×Int):=bif decide (t.kind=38) then capL (useN t 0) else []
theorem Vre{t:Nd}(h:t.kind=38):(visN t 0).foldl capW []=capT t:=by
 unfold capT;rw [Zlg,h];rfl
theorem Zmg{o:List (Int×Int)}{x:Nd×Int}{c:Int×Int}:c∈capS o x↔c∈o∨(c=capC x∧0<c.1):=by
 unfold capS;cases h:(decide (0<(capC x).1) && !decide (capC x∈o));rw [cond_false];refine ⟨.inl,fun q=>q.elim id fun ⟨e,hp⟩=>?_⟩;subst e;simp only [Bool.and_eq_false_iff,decide_eq_false_iff_not,Bool.not_eq_false',decide_eq_true_eq] at h;exact h.elim (fun h=>absurd hp h) id;rw [cond_true,List.mem_append,List.mem_singleton];simp only [Bool.and_eq_true,decide_eq_true_eq] at h;exact ⟨fun q=>q.imp id fun e=>⟨e,e▸h.1⟩,fun q=>q.imp id fun e=>e.1⟩
theorem Vse:∀ {l:List (Nd×Int)} {o:List (Int×Int)} {c:Int×Int},c∈l.foldl capS o↔c∈o∨∃ x∈l,c=capC x∧0<c.1
 | [],o,c=>by simp
 | x::l,o,c=>by
  rw [List.foldl_cons,Vse,Zmg];constructor;rintro ((h|h)|⟨y,hy,h⟩);exact .inl h;exact .inr ⟨x,List.mem_cons_self,h⟩;exact .inr ⟨y,List.mem_cons_of_mem _ hy,h⟩;rintro (h|⟨y,hy,h⟩);exact .inl (.inl h);rcases List.mem_cons.1 hy with e|hy;subst e;exact .inl (.inr h);exact .inr ⟨y,hy,h⟩
theorem capT_mem{t:Nd}{c:Int×Int}:c∈capT t↔t.kind=38∧∃ x∈visN t 0,useB x.1=true∧c=capC x∧0<c.1:=by
 unfold capT;cases h:decide (t.kind=38);rw [cond_false];exact ⟨fun h=>(by cases h),fun q=>absurd q.1 (of_decide_eq_false h)⟩;rw [cond_true];unfold capL;rw [Vse];refine ⟨fun q=>?_,fun ⟨_,x,hx,hu,q⟩=>.inr ⟨x,List.mem_filter.2 ⟨hx,hu⟩,q⟩⟩;rcases q with q|⟨x,hx,q⟩;cases q;exact ⟨of_decide_eq_true h,x,(List.mem_filter.1 hx).1,(List.mem_filter.1 hx).2,q⟩
structure Dc where
  name:List UInt8
  typ:Ty
  par:Bool
def dclD(x:Nd):List Dc :=
 bif decide (x.kind=3) then [⟨x.text,(ofF (Zb x 0)).1,true⟩]
 else bif decide (x.kind=6) then [⟨x.text,(ofF (Zb x 0)).1,false⟩]
 else bif decide (x.kind=11) then [⟨x.text,(Zb x 0).ty,false⟩] else []
def ownD(t:Nd):List Dc:=para (fun t l=>dclD t++bif decide (t.kind=38) then [] else l.flatten) t
theorem Yid(t:Nd):ownD t=dclD t++bif decide (t.kind=38) then [] else t.kids.flatMap ownD:=by
 unfold ownD;rw [Yaa];rfl
def locL(t:Nd):List Dc:=t.kids.flatMap ownD
theorem Zlb{α:Type}{f:Nd→List α}:∀ (l:List Nd),(∀ k∈l,(f k).length≤count k)→(l.flatMap f).length≤(l.map count).sum
 | [],_=>Nat.le_refl _
 | k::l,h=>by
  rw [List.flatMap_cons,List.length_append,List.map_cons,List.sum_cons];have:=h k List.mem_cons_self;have:=Zlb l fun x hx=>h x (List.mem_cons_of_mem _ hx);omega
def litE(k:Nd):List Nd:=(bif decide (k.kind=38) then [k] else [])++litN k
def ownE(k:Nd):List Nd:=k::bif decide (k.kind=38) then [] else ownN k
theorem Wsd:∀ t,(litN t).length+1≤count t:=by
 refine Nd.ind fun t ih=>?_;rw [Yre,Uw,Nat.add_comm];refine Nat.add_le_add_left (Zlb _ fun k hk=>?_) 1;have:=ih k hk;rw [List.length_append];cases decide (k.kind=38);simp only [cond_false,List.length_nil];omega;simp only [cond_true,List.length_cons,List.length_nil];omega
theorem Xzb:∀ t,(ownN t).length+1≤count t:=by
 refine Nd.ind fun t ih=>?_;rw [Yqe,Uw,Nat.add_comm];refine Nat.add_le_add_left (Zlb _ fun k hk=>?_) 1;have:=ih k hk;rw [List.length_cons];cases decide (k.kind=38);simp only [cond_false];omega;simp only [cond_true,List.length_nil];omega
def litK(t:Nd)(i:Nat):List Nd:=(t.kids.take i).flatMap litE
def ownL(t:Nd)(i:Nat):List Nd:=(t.kids.take i).flatMap ownE
theorem Zng(t:Nd)(i:Nat):(litK t i).length≤((t.kids.take i).map count).sum:=Zlb _ fun k _=>by
 have:=Wsd k;unfold litE;rw [List.length_append];cases decide (k.kind=38);simp only [cond_false,List.length_nil];omega;simp only [cond_true,List.length_cons,List.length_nil];omega
theorem Zog(t:Nd)(i:Nat):(ownL t i).length≤((t.kids.take i).map count).sum:=Zlb _ fun k _=>by
 have:=Xzb k;unfold ownE;rw [List.length_cons];cases decide (k.kind=38);simp only [cond_false];omega;simp only [cond_true,List.length_nil];have:=Uo k;omega
theorem Zrh{t:Nd}{i:Nat}(h:i<t.kids.length)(e:decide (t.kids[i].kind=38)=true):litK t i++[t.kids[i]]++litN t.kids[i]=litK t (i+1):=by
 unfold litK;rw [Jh h,List.flatMap_append,List.append_assoc,List.flatMap_cons,List.flatMap_nil,List.append_nil];unfold litE;rw [e];rfl
theorem Zsh{t:Nd}{i:Nat}(h:i<t.kids.length)(e:decide (t.kids[i].kind=38)=false):litK t i++litN t.kids[i]=litK t (i+1):=by
 unfold litK;rw [Jh h,List.flatMap_append,List.flatMap_cons,List.flatMap_nil,List.append_nil];show _=_++litE t.kids[i];unfold litE;rw [e];rfl
theorem Zth{t:Nd}{i:Nat}(h:i<t.kids.length)(e:decide (t.kids[i].kind=38)=false):ownL t i++[t.kids[i]]++ownN t.kids[i]=ownL t (i+1):=by
 unfold ownL;rw [Jh h,List.flatMap_append,List.append_assoc,List.flatMap_cons,List.flatMap_nil,List.append_nil];unfold ownE;rw [e];rfl
theorem Zuh{t:Nd}{i:Nat}(h:i<t.kids.length)(e:decide (t.kids[i].kind=38)=true):ownL t i++[t.kids[i]]=ownL t (i+1):=by
 unfold ownL;rw [Jh h,List.flatMap_append,List.flatMap_cons,List.flatMap_nil,List.append_nil];unfold ownE;rw [e];rfl
theorem Vte(t:Nd):litK t t.kids.length=litN t:=by unfold litK;rw [List.take_length,Yre];rfl
theorem Vue(t:Nd):ownL t t.kids.length=ownN t:=by unfold ownL;rw [List.take_length,Yqe];rfl
def RetL(D:Nat→Prop)(ks:List Nd)(r:Value)(w:World):Prop:=Kd w D ks r∧(ks=[]→r = .slice none 0 0)
theorem RetL.slice{D:Nat→Prop}{ks:List Nd}{r:Value}{w:World}(h:RetL D ks r w):∃ p c,r = .slice p ks.length c∧RowS w D ks p:=by
 obtain ⟨⟨p,c,rfl,hc,h1⟩,h2⟩:=h;refine ⟨p,c,rfl,fun e=>?_,fun e=>?_⟩;have:=h2 e;injection this;obtain ⟨b,o,e1,_,xs,h3,h4⟩:=h1 (List.length_pos_iff.2 e);exact ⟨b,o,xs,e1,h3,h4⟩
theorem RowS.mono{w:World}{D D':Nat→Prop}{ls:List Nd}{p:Option Addr}(h:RowS w D ls p)(hD:∀ b,D b→D' b):RowS w D' ls p :=
 ⟨h.1,fun e=>by obtain ⟨b,o,xs,h1,h2,h3⟩:=h.2 e;exact ⟨b,o,xs,h1,h2,h3.mono fun b hb _=>hD b hb⟩⟩
theorem RowS.grow{w w':World}{D:Nat→Prop}{ls:List Nd}{p:Option Addr}(h:RowS w D ls p)(g:G w w'):RowS w' D ls p :=
 ⟨h.1,fun e=>by obtain ⟨b,o,xs,h1,h2,h3⟩:=h.2 e;exact ⟨b,o,xs,h1,h2.grow g,h3.grow g⟩⟩
theorem Zgf{D:Nat→Prop}{n0 n1:Nat}{X:List Nat}{s:Value}{k:Nat}(hk:(D k∧k<n0)∨n1≤k)(h01:n0≤n1)(hX:∀ j∈X,j<n1)(hO:∀ j,s.ownBlock=some j→n0≤j∧j<n1):((D k∧k<n0)∨Dx n0 X k)∧some k≠s.ownBlock:=by
 rcases hk with hk|hk;exact ⟨.inl hk,fun e=>by have:=hO k e.symm;omega⟩;exact ⟨.inr ⟨by omega,fun h=>by have:=hX k h;omega⟩,fun e=>by have:=hO k e.symm;omega⟩
theorem Zhf:∀ (t:Nd) (v:Value) (D:Nat→Prop) (w:World),Kd w D t.kids v→count t≤1000000→Ret PP Ubd #[ndV t v] w fun r w'=>RetL (fun b=>D b∨w.heap.size≤b) (litN t) r w'∧G w w':=by
 refine Nd.ind fun t ih v D w hk hc=>?_;obtain ⟨p,c,rfl,hcap,hks⟩:=hk;have g:=G.refl w;have hlen:=Wz t;refine WK 36 [0] Jpc ?_;refine BM fun b1 _ _ _ g E=>?_;refine Yr O (Ze (kq (Zi (Zk (Yr O (Ze (kq (Zi (Zi (Zk (Yr O (Ze (kq (Yo (?_)))))))))))))));have hnd1:=E.1;refine Xo (fun (x:Nat×Option Addr×Nat) u1=>match x with|⟨i,a,ca⟩=>(i≤t.kids.length∧OwnK Ys (fun b=>(D b∧b<w.heap.size)∨Dx w.heap.size [b1] b) w.heap.size u1 (litK t i) (.slice a (litK t i).length ca)∧(litK t i=[]→Value.slice a (litK t i).length ca = .slice none 0 0))∧G w u1) _ [(1,True,_),(2,True,_)] (fun (x:Nat×Option Addr×Nat)=>match x with|⟨i,a,ca⟩=>[(3,True,.slice a (litK t i).length ca),(4,True,.int .i64 i)]) (fun (x:Nat×Option Addr×Nat)=>match x with|⟨i,a,ca⟩=>t.kids.length-i) ((0,none,0)) ⟨⟨Nat.zero_le _,Xub _ _ _ _,fun _=>rfl⟩,g⟩ (Zs (blkE E.g0) (Zz _)) (Za rfl (Za rfl (Za rfl (Za rfl (Zo _))))) ?_;clear E;rintro ⟨i,a,ca⟩ u1 ⟨hI1,gl1⟩ ⟨B1,_⟩;replace B1:Blk _ _ _ _:=B1;have g:=gl1;obtain ⟨hi,hO,hE⟩:=hI1;have E:=Jo (L:=[(b1,_,_)]) hnd1 ⟨B1,trivial⟩ rfl;refine Zi (Zi (Zk (Zp O (Yf Zg O (Yp Zf O (E.g0.at_ O) (Xha Zc O (Xna O O (Ze (kq (Wn O (fun h1=>?_) (fun h1=>?_)))))))))));replace h1:i<t.kids.length:=by simp only [decide_eq_true_eq] at h1;omega
 obtain ⟨b,o,rfl,hD,xs,hR,hX⟩:=hks (by omega);obtain ⟨p',c',hcell,hkid⟩:=Zgb hR hX h1;have hck:=Zfa h1;have hcl:=Zng t i;have hll:=Wsd t.kids[i];have hu:=g.size;refine Yb (kq (Zi (Yo (Zi (Zi (Zk (Yf Zg O (Yp Zf O (E.g0.at_ O) (Zp O (Qpa Zc O O (by omega) (Yf Xl O (Yp Yh O ((hcell.grow g).one (i:=0) O) (Zya O O (Ze (kq (Wn O (fun h2=>?_) (fun h2=>?_)))))))))))))))));replace h2:decide (t.kids[i].kind=38)=true:=h2;refine Zk (Zp O (Yf Zg O (Yp Zf O (E.g0.at_ O) (Zp O (Qpa Zc O O (by omega) (Ve Zh O O (hcell.grow g) (CN fun _ _ ga _ g E=>?_)))))));have hO:=Ui hO;have hOo:=hO;refine Vda O Zc Zt O (Zd O) hO (Zd O) O E.g0.row (Yc ((hkid.old g).mono fun k hk _=>⟨.inl hk,fun he=>by have:=hO.ge k he.symm;omega⟩)) (by first|omega|(simp;omega)) (by have:=g.size;omega) (.inr ⟨by have:=g.size;omega,by have:=E.g1.lt;simp;omega⟩) ?_;intro a26 c26 w26 hO hg26;replace E:=E.sel [false,true];replace E:=E.keep hg26 (List.forall_mem_cons.2 ⟨(hOo.ne (by rintro (h|h);exact absurd h.2 (by omega);simp [Dx] at h)),List.forall_mem_nil _⟩);have g:=Qc g hg26 (fun k hk=>hOo.ge k hk);have hE:litK t i++[t.kids[i]]=[]→Value.slice a26 (litK t i++[t.kids[i]]).length c26 = .slice none 0 0:=fun e=>absurd e (by simp);refine Yr O (Ze (kq (Zk (?_))));have hOlt:=hO.lt;have hOge:=hO.ge;have hB1lt:=E.g0.lt;refine Zp O (Yf Zg O (Yp Zf O (E.g0.at_ O) (Zp O (Qpa Zc O O (by omega) (Ve Zh O O (hcell.grow g) (CL (ih _ (List.getElem_mem h1) _ (fun b=>D b∧b<w.heap.size) _ (hkid.old g) (by omega)) ?_))))));rintro v33 w33 ⟨hr33,g33⟩;refine ⟨fun _=>g33,?_⟩;obtain ⟨p2,c2,rfl,hS⟩:=hr33.slice;have hs0:=g.size;have g:=g.trans g33;replace E:=E.grow g33;have hO:=hO.grow (g33);have hOo:=hO
 refine Wfc O Zc Zt O (Zd O) hO hE (Zd O) (hS.mono fun k hk=>Zgf hk hs0 (by simp;omega) fun j hj=>⟨hOge j hj,hOlt j hj⟩) (by first|omega|(simp;omega)) (by have:=g.size;omega) (.inr ⟨by have:=g.size;omega,by have:=E.g0.lt;simp;omega⟩) ?_;intro a34 c34 w34 hO hE hg34;replace E:=E.keep hg34 (List.forall_mem_cons.2 ⟨(hOo.ne (by rintro (h|h);exact absurd h.2 (by omega);simp [Dx] at h)),List.forall_mem_nil _⟩);have g:=Qc g hg34 (fun k hk=>hOo.ge k hk);refine AU ?_;refine SK [3,4,1,2] ?_;refine Ze (fun a ha=>?_);rw [Zrh h1 h2] at ha hO hE;exact ⟨(i+1,a34,c34),ha,⟨⟨h1,hO,hE⟩,g⟩,(Zs (blkE E.g0) (Zz _)),by show t.kids.length-(i+1)<t.kids.length-i;omega⟩;replace h2:decide (t.kids[i].kind=38)=false:=h2;refine Yb (kq (Zk (?_)));have hOlt:=hO.lt;have hOge:=hO.ge;have hB1lt:=E.g0.lt;refine Zp O (Yf Zg O (Yp Zf O (E.g0.at_ O) (Zp O (Qpa Zc O O (by omega) (Ve Zh O O (hcell.grow g) (CL (ih _ (List.getElem_mem h1) _ (fun b=>D b∧b<w.heap.size) _ (hkid.old g) (by omega)) ?_))))));rintro v33 w33 ⟨hr33,g33⟩;refine ⟨fun _=>g33,?_⟩;obtain ⟨p2,c2,rfl,hS⟩:=hr33.slice;have hs0:=g.size;have g:=g.trans g33;replace E:=E.grow g33;have hO:=hO.grow (g33);have hOo:=hO;refine Wfc O Zc Zt O (Zd O) hO hE (Zd O) (hS.mono fun k hk=>Zgf hk hs0 (by simp;omega) fun j hj=>⟨hOge j hj,hOlt j hj⟩) (by first|omega|(simp;omega)) (by have:=g.size;omega) (.inr ⟨by have:=g.size;omega,by have:=E.g0.lt;simp;omega⟩) ?_;intro a34 c34 w34 hO hE hg34;replace E:=E.keep hg34 (List.forall_mem_cons.2 ⟨(hOo.ne (by rintro (h|h);exact absurd h.2 (by omega);simp [Dx] at h)),List.forall_mem_nil _⟩);have g:=Qc g hg34 (fun k hk=>hOo.ge k hk);refine AU ?_;refine SK [3,4,1,2] ?_;refine Ze (fun a ha=>?_)
 rw [Zsh h1 h2] at ha hO hE;exact ⟨(i+1,a34,c34),ha,⟨⟨h1,hO,hE⟩,g⟩,(Zs (blkE E.g0) (Zz _)),by show t.kids.length-(i+1)<t.kids.length-i;omega⟩;replace h1:i=t.kids.length:=by simp only [decide_eq_false_iff_not] at h1;omega
 subst h1;rw [Vte] at hO hE;refine RTN ?_;rw [Vte];exact ⟨⟨hO.kd fun b hb=>hb.elim (fun h=>.inl h.1) (fun h=>.inr h.1),hE⟩,g⟩
theorem Xgf:∀ (t:Nd) (v:Value) (D:Nat→Prop) (w:World),Kd w D t.kids v→count t≤1000000→Ret PP Jce #[ndV t v] w fun r w'=>RetL (fun b=>D b∨w.heap.size≤b) (ownN t) r w'∧G w w':=by
 refine Nd.ind fun t ih v D w hk hc=>?_;obtain ⟨p,c,rfl,hcap,hks⟩:=hk;have g:=G.refl w;have hlen:=Wz t;refine WK 36 [0] Zce ?_;refine BM fun b1 _ _ _ g E=>?_;refine Yr O (Ze (kq (Zi (Zk (Yr O (Ze (kq (Zi (Zi (Zk (Yr O (Ze (kq (Yo (?_)))))))))))))));have hnd1:=E.1;refine Xo (fun (x:Nat×Option Addr×Nat) u1=>match x with|⟨i,a,ca⟩=>(i≤t.kids.length∧OwnK Ys (fun b=>(D b∧b<w.heap.size)∨Dx w.heap.size [b1] b) w.heap.size u1 (ownL t i) (.slice a (ownL t i).length ca)∧(ownL t i=[]→Value.slice a (ownL t i).length ca = .slice none 0 0))∧G w u1) _ [(1,True,_),(2,True,_)] (fun (x:Nat×Option Addr×Nat)=>match x with|⟨i,a,ca⟩=>[(3,True,.slice a (ownL t i).length ca),(4,True,.int .i64 i)]) (fun (x:Nat×Option Addr×Nat)=>match x with|⟨i,a,ca⟩=>t.kids.length-i) ((0,none,0)) ⟨⟨Nat.zero_le _,Xub _ _ _ _,fun _=>rfl⟩,g⟩ (Zs (blkE E.g0) (Zz _)) (Za rfl (Za rfl (Za rfl (Za rfl (Zo _))))) ?_;clear E;rintro ⟨i,a,ca⟩ u1 ⟨hI1,gl1⟩ ⟨B1,_⟩;replace B1:Blk _ _ _ _:=B1;have g:=gl1;obtain ⟨hi,hO,hE⟩:=hI1;have E:=Jo (L:=[(b1,_,_)]) hnd1 ⟨B1,trivial⟩ rfl;refine Zi (Zi (Zk (Zp O (Yf Zg O (Yp Zf O (E.g0.at_ O) (Xha Zc O (Xna O O (Ze (kq (Wn O (fun h1=>?_) (fun h1=>?_)))))))))));replace h1:i<t.kids.length:=by simp only [decide_eq_true_eq] at h1;omega
 obtain ⟨b,o,rfl,hD,xs,hR,hX⟩:=hks (by omega);obtain ⟨p',c',hcell,hkid⟩:=Zgb hR hX h1;have hck:=Zfa h1;have hcl:=Zog t i;have hll:=Xzb t.kids[i];have hu:=g.size;refine Yb (kq (Zi (Yo (Zi (Zk (Zp O (Yf Zg O (Yp Zf O (E.g0.at_ O) (Zp O (Qpa Zc O O (by omega) (Ve Zh O O (hcell.grow g) (CN fun _ _ ga _ g E=>?_))))))))))));have hO:=Ui hO;have hOo:=hO;refine Vda O Zc Zt O (Zd O) hO (Zd O) O E.g0.row (Yc ((hkid.old g).mono fun k hk _=>⟨.inl hk,fun he=>by have:=hO.ge k he.symm;omega⟩)) (by first|omega|(simp;omega)) (by have:=g.size;omega) (.inr ⟨by have:=g.size;omega,by have:=E.g1.lt;simp;omega⟩) ?_;intro a19 c19 w19 hO hg19;replace E:=E.sel [false,true];replace E:=E.keep hg19 (List.forall_mem_cons.2 ⟨(hOo.ne (by rintro (h|h);exact absurd h.2 (by omega);simp [Dx] at h)),List.forall_mem_nil _⟩);have g:=Qc g hg19 (fun k hk=>hOo.ge k hk);have hE:ownL t i++[t.kids[i]]=[]→Value.slice a19 (ownL t i++[t.kids[i]]).length c19 = .slice none 0 0:=fun e=>absurd e (by simp);refine Yr O (Ze (kq (Zi (Zk (Yf Zg O (Yp Zf O (E.g0.at_ O) (Zp O (Qpa Zc O O (by omega) (Yf Xl O (Yp Yh O ((hcell.grow g).one (i:=0) O) (Yyd O O (Ze (kq (Wn O (fun h2=>?_) (fun h2=>?_)))))))))))))));replace h2:decide (t.kids[i].kind=38)=false:=by simpa using h2
 refine Zk (?_);have hOlt:=hO.lt;have hOge:=hO.ge;have hB1lt:=E.g0.lt;refine Zp O (Yf Zg O (Yp Zf O (E.g0.at_ O) (Zp O (Qpa Zc O O (by omega) (Ve Zh O O (hcell.grow g) (CL (ih _ (List.getElem_mem h1) _ (fun b=>D b∧b<w.heap.size) _ (hkid.old g) (by omega)) ?_))))));rintro v33 w33 ⟨hr33,g33⟩;refine ⟨fun _=>g33,?_⟩;obtain ⟨p2,c2,rfl,hS⟩:=hr33.slice;have hs0:=g.size;have g:=g.trans g33;replace E:=E.grow g33;have hO:=hO.grow (g33);have hOo:=hO;refine Wfc O Zc Zt O (Zd O) hO hE (Zd O) (hS.mono fun k hk=>Zgf hk hs0 (by simp;omega) fun j hj=>⟨hOge j hj,hOlt j hj⟩) (by first|omega|(simp;omega)) (by have:=g.size;omega) (.inr ⟨by have:=g.size;omega,by have:=E.g0.lt;simp;omega⟩) ?_;intro a34 c34 w34 hO hE hg34;replace E:=E.keep hg34 (List.forall_mem_cons.2 ⟨(hOo.ne (by rintro (h|h);exact absurd h.2 (by omega);simp [Dx] at h)),List.forall_mem_nil _⟩);have g:=Qc g hg34 (fun k hk=>hOo.ge k hk);refine AU ?_;refine SK [3,4,1,2] ?_;refine Ze (fun a ha=>?_);rw [Zth h1 h2] at ha hO hE;exact ⟨(i+1,a34,c34),ha,⟨⟨h1,hO,hE⟩,g⟩,(Zs (blkE E.g0) (Zz _)),by show t.kids.length-(i+1)<t.kids.length-i;omega⟩;replace h2:decide (t.kids[i].kind=38)=true:=by simpa using h2
 refine AU ?_;refine SK [3,4,1,2] ?_;refine Ze (fun a ha=>?_);rw [Zuh h1 h2] at ha hO hE;exact ⟨(i+1,a19,c19),ha,⟨⟨h1,hO,hE⟩,g⟩,(Zs (blkE E.g0) (Zz _)),by show t.kids.length-(i+1)<t.kids.length-i;omega⟩;replace h1:i=t.kids.length:=by simp only [decide_eq_false_iff_not] at h1;omega
 subst h1;rw [Vue] at hO hE;refine RTN ?_;rw [Vue];exact ⟨⟨hO.kd fun b hb=>hb.elim (fun h=>.inl h.1) (fun h=>.inr h.1),hE⟩,g⟩
def fnB(t:Nd):Bool:=decide (t.kind=4) || decide (t.kind=38)
theorem Jja(t:Nd)(v:Value)(w:World):Ret PP Joc #[ndV t v] w fun r w'=>r = .bool (fnB t)∧G w w':=by
 have g:=G.refl w;refine WK 11 [0] Wzc ?_;refine BM fun _ _ _ _ g E=>?_;refine RTN ?_;exact ⟨rfl,g⟩
theorem Ueg(l:List (Int×Int))(c:Int×Int)(v:Value)(w:World)(h:RowF capCells w l v)(hl:l.length≤1000000):Ret PP Xcd #[v,.agg (capCells c).toArray] w fun r w'=>r = .bool (decide (c∈l))∧G w w':=by
 have h0:=h;obtain ⟨p,q,rfl,hq,_⟩:=h;have g:=G.refl w;refine WK 18 [0,1] Jxd ?_;refine BM fun b3 _ _ _ g E=>?_;refine AU ?_;have hnd1:=E.1;refine Xo (fun (i:Nat) u1=>(i≤l.length∧c∉l.take i)∧G w u1) _ [(0,True,_),(3,True,_)] (fun (i:Nat)=>[(5,True,.int .i64 i)]) (fun (i:Nat)=>l.length-i) (0) ⟨⟨Nat.zero_le _,by simp⟩,g⟩ (Zs (blkE E.g0) (Zz _)) (Za O (Za O (Za O (Zo _)))) ?_;clear E;rintro i u1 ⟨hI1,gl1⟩ ⟨B3,_⟩;replace B3:Blk _ _ _ _:=B3;have g:=gl1;obtain ⟨hi,hn⟩:=hI1;have E:=Jo (L:=[(b3,_,_)]) hnd1 ⟨B3,trivial⟩ rfl;refine IF (fun h1=>?_) fun h1=>?_;replace h1:i<l.length:=by simp only [decide_eq_true_eq] at h1;omega
 obtain ⟨hpe,hcell⟩:=(h0.grow g).opt Uz h1;refine AU ?_;refine Yx [3,3,3,0,0,3] [true,true,true,true,true,true] [0,0,3,7,0,31] mix (by kernel_rfl) ?_;have g:=gdr g;replace E:=E.dr;refine IF (fun h2=>?_) fun h2=>?_;replace h2:l[i]=c:=by simpa [Prod.ext_iff] using h2
 refine RTN ?_;exact ⟨by rw [Weh (h2▸List.getElem_mem h1)],g⟩;replace h2:l[i]≠c:=fun e=>by subst e;simp at h2
 refine AU ?_;refine SK [5,0,3] ?_;refine Ze (fun a ha=>?_);exact ⟨i+1,ha,⟨⟨h1,by rw [Jh h1,List.mem_append,List.mem_singleton];exact fun h=>h.elim hn fun e=>h2 e.symm⟩,g⟩,(Zs (blkE E.g0) (Zz _)),by omega⟩;replace h1:i=l.length:=by simp only [decide_eq_false_iff_not] at h1;omega
 subst h1;refine RTN ?_;rw [List.take_length] at hn;exact ⟨by rw [Wdh hn],g⟩
def dirN(t:Nd):List Nd:=(ownN t).filter fun k=>decide (k.kind=38)
def dirT(t:Nd):List Nd:=bif fnB t then dirN t else []
theorem Ybb{α:Type}{p:α→Bool}{l:List α}{i:Nat}(h:i<l.length):(l.take (i+1)).filter p=(l.take i).filter p++(bif p l[i] then [l[i]] else []):=by
 rw [Jh h,List.filter_append];cases hp:p l[i];rw [List.filter_cons_of_neg (by rw [hp];decide)];rfl;rw [List.filter_cons_of_pos hp];rfl
theorem Wtd{α:Type}{p:α→Bool}{l:List α}{i:Nat}:((l.take i).filter p).length≤i:=by
 have:=List.length_filter_le p (l.take i);have:=List.length_take_le i l;omega
theorem Kd.opt1{w:World}{D:Nat→Prop}{ls:List Nd}{p:Option Addr}{c:Nat}(hk:Kd w D ls (.slice p ls.length c)){i:Nat}(h:i<ls.length):p=some ⟨pb p,po p,none⟩∧∃ p' c',RowAt w (pb p) (po p+i*9) (ndCells ls[i] (.slice p' ls[i].kids.length c'))∧Kd w D ls[i].kids (.slice p' ls[i].kids.length c'):=by
 obtain ⟨h1,p',c',h2,h3⟩:=Yl (t:=.mk 0 [] 0 0 ls ty0 0 0) hk h;have e:Zb (.mk 0 [] 0 0 ls ty0 0 0) i=ls[i]:=Wc (t:=.mk 0 [] 0 0 ls ty0 0 0) h;rw [e] at h2 h3;exact ⟨h1,p',c',h2,h3⟩
theorem Wud(t:Nd)(v:Value)(D:Nat→Prop)(w:World)(hk:Kd w D t.kids v)(hc:count t≤1000000):Ret PP Vzd #[ndV t v] w fun r w'=>Kd w' (fun b=>D b∨w.heap.size≤b) (dirT t) r∧G w w':=by
 have hln:=Xzb t;have hk0:Kd w (fun b=>D b∧b<w.heap.size) t.kids v:=hk.lt;have g:=G.refl w;refine WK 31 [0] Jmc ?_;refine BM fun _ _ _ _ g E=>?_;refine AU ?_;refine CP (Jja t v _) (fun w7 g7=>?_);have g:=g.trans g7;replace E:=E.grow g7;refine IF (fun h1=>?_) fun h1=>?_;replace h1:fnB t=false:=by simpa using h1
 refine RTN ?_;unfold dirT;rw [h1];exact ⟨Qta _ _,g⟩;replace h1:fnB t=true:=by simpa using h1
 have hT:dirT t=dirN t:=by unfold dirT;rw [h1];rfl
 refine AU ?_;refine CL (Xgf t v (fun b=>D b∧b<w.heap.size) _ (hk0.grow g) hc) ?_;rintro v10 w10 ⟨⟨hk10,_⟩,g10⟩;refine ⟨fun _=>g10,?_⟩;have hlw:w.heap.size≤w10.heap.size:=(g.trans g10).size;have hk10:Kd w10 (fun b=>(D b∨w.heap.size≤b)∧b<w10.heap.size) (ownN t) v10:=(hk10.mono fun b hb _=>hb.elim (fun h=>.inl h.1) fun h=>.inr (Nat.le_trans g.size h)).lt;have g:=g.trans g10;obtain ⟨n1,hn1⟩:∃ n,n=w10.heap.size:=⟨_,rfl⟩;rw [← hn1] at hk10 hlw;obtain ⟨p10,c10,rfl,_⟩:=id hk10;replace E:=E.grow g10;refine AU ?_;replace E:=E.sel [false];refine Xo (fun (x:Nat×Option Addr×Nat) u1=>match x with|⟨i,sa,ca⟩=>(i≤(ownN t).length∧n1≤u1.heap.size∧Kd u1 (fun b=>(D b∨w.heap.size≤b)∧b<n1) (ownN t) (.slice p10 (ownN t).length c10)∧OwnK Ys (fun b=>(D b∨w.heap.size≤b)) n1 u1 (((ownN t).take i).filter fun k=>decide (k.kind=38)) (.slice sa (((ownN t).take i).filter fun k=>decide (k.kind=38)).length ca))∧G w u1) _ [(2,True,_),(4,True,_)] (fun (x:Nat×Option Addr×Nat)=>match x with|⟨i,sa,ca⟩=>[(3,True,.slice sa (((ownN t).take i).filter fun k=>decide (k.kind=38)).length ca),(5,True,.int .i64 i)]) (fun (x:Nat×Option Addr×Nat)=>match x with|⟨i,sa,ca⟩=>(ownN t).length-i) ((0,none,0)) ⟨⟨Nat.zero_le _,Nat.le_of_eq hn1,hk10,Xub _ _ _ _⟩,g⟩ (Zz _) (Za O (Za O (Za O (Za O (Zo _))))) ?_;rintro ⟨i,sa,ca⟩ u1 ⟨hI1,gl1⟩ _;have g:=gl1;obtain ⟨hi,hnu,hk10,hO⟩:=hI1;have hfl:=Wtd (p:=fun k=>decide (k.kind=38)) (l:=ownN t) (i:=i);refine IF (fun h2=>?_) fun h2=>?_;replace h2:i<(ownN t).length:=by simp only [decide_eq_true_eq] at h2;omega
 obtain ⟨hpe,p',c',hcell,hkid⟩:=hk10.opt1 h2;have hks:=hk10;have gz:=G.refl u1;refine IF (fun h3=>?_) fun h3=>?_;replace h3:decide ((ownN t)[i].kind=38)=true:=h3;have ef:=Ybb (p:=fun k=>decide (k.kind=38)) h2;rw [h3] at ef;refine CM fun _ _ N28 _ g E=>?_;have hO:=hO.grow (N28.g);have hkid:=hkid.grow N28.g;have hb28:=E.g0.lt;have hs28:=N28.g.size;have hOo:=hO;refine Vda O Zc Zt O (Zd O) hO (Zd O) O E.g0.row (Yc (hkid.mono fun k hk _=>⟨hk.1,fun he=>by have:=hO.ge k he.symm;omega⟩)) (by first|omega|(simp;omega)) (by have:=g.size;omega) (.inr (by have:=g.size;omega)) ?_;intro a29 c29 w29 hO hg29;replace E:=E.sel [false];have g:=Qc g hg29 (fun k hk=>(by have:=hOo.ge k hk;omega));refine AU ?_;refine SK [3,5,2,4] ?_;refine Ze (fun a ha=>?_);rw [show ((ownN t).take i).filter (fun k=>decide (k.kind=38))++[(ownN t)[i]]=((ownN t).take (i+1)).filter (fun k=>decide (k.kind=38)) from ef.symm] at ha hO;exact ⟨(i+1,a29,c29),ha,⟨⟨h2,by have:=hg29.size;have:=N28.g.size;omega,(hks.grow N28.g).keep hg29 (fun k hk _ he=>by have:=hOo.ge k he.symm;omega),hO⟩,g⟩,(Zz _),by show (ownN t).length-(i+1)<(ownN t).length-i;omega⟩;replace h3:decide ((ownN t)[i].kind=38)=false:=h3;have ef:=Ybb (p:=fun k=>decide (k.kind=38)) h2;rw [h3,cond_false,List.append_nil] at ef;refine AU ?_;refine SK [3,5,2,4] ?_;refine Ze (fun a ha=>?_);rw [← ef] at ha hO;exact ⟨(i+1,sa,ca),ha,⟨⟨h2,hnu,hk10,hO⟩,g⟩,(Zz _),by show (ownN t).length-(i+1)<(ownN t).length-i;omega⟩;replace h2:i=(ownN t).length:=by simp only [decide_eq_false_iff_not] at h2;omega
 subst h2;rw [List.take_length] at hO;refine RTN ?_;rw [hT,List.take_length];exact ⟨hO.kd fun b hb=>hb,g⟩
end Go.Rk
