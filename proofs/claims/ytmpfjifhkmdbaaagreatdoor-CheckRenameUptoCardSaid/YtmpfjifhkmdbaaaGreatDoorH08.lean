/- Merged texts. Conditions: each text's own. -/
import Derived.Test.YtmpfjifhkmdbaaaGreatDoorH07
set_option linter.unusedSimpArgs false
set_option linter.unusedVariables false
set_option maxHeartbeats 16000000
set_option maxRecDepth 100000
open Bool renaming or_eq_false_iff→Aea
open List renaming length_map→Aaa,length_take→Aba,getElem_mem→Ada
open Nat renaming zero_le→Aca
namespace Go.Proofs
end Go.Proofs
namespace Go.Rk
open Go.Proofs
open Go Go.RowKit
def occB(s:List UInt8)(t:Nd):Bool:=(listN t).any fun x=>decide (x.text=s)
theorem Jne(s:List UInt8)(t:Nd)(v:Value)(D:Nat→Prop)(w:World)(hkD:Kd w D t.kids v)(hc:count t≤1000000):Ret PP 22 #[ndV t v,Str s] w fun r w'=>r = .bool (occB s t)∧G w w':=by
 obtain ⟨n0,hn0⟩:∃ n,n=w.heap.size:=⟨_,rfl⟩;have hk:Kd w (fun k=>k<n0) t.kids v:=Kd.mono hkD fun k _ h=>by rw [hn0];exact h
 obtain ⟨p,c,rfl,_⟩:=id hk;have g:=G.refl w;refine Ul (m:=22) Tryz.func22 J J [(0,True,_),(1,True,_)] (Zb J (Zb J (Zq _))) ?_;refine Zk (Zn (Zqa J (Zc J) J ?_));intro b2 w2 N2;have l2:=N2.ge g;have nat2:=N2.at_;have g:=g.trans (N2.g);try have hk:=hk.grow (N2.g)
 try have hk8:=hk8.grow (N2.g)
 try have hcell:=hcell.grow (N2.g)
 have E:=(Qs _).new N2;refine Xf J (Ze (kq (Zk (Zn (Va Zf J J E.g0.row (Xe J (Zy Xyb Wz (aqc J aq0) J) (Vmd t _ _ _ hk hc) ?_))))));rintro v8 w8 ⟨hk8,g8⟩;refine ⟨fun _=>g8,?_⟩;have g:=g.trans (g8);replace E:=E.grow (g8);try have hk:=hk.grow (g8)
 try have hk8:=hk8.grow (g8)
 try have hcell:=hcell.grow (g8)
 obtain ⟨p8,c8,rfl,_⟩:=id hk8;have hln:=Ywb t;refine Xf J (Ze (kq (Zk (Zk (Zn (Xf J (Ze (kq (Yw (Qk (fun (i:Nat) u1=>(i≤(listN t).length∧∀ j,(h:j<(listN t).length)→j<i→(listN t)[j].text≠s)∧G w8 u1) [(1,True,_),(5,True,_)] (fun (i:Nat)=>[(6,True,.int .i64 i)]) (fun (i:Nat)=>(listN t).length-i) (0) ⟨⟨Aca _,fun j _ hj=>absurd hj (Nat.not_lt_zero j)⟩,G.refl _⟩ (Zb J (Zb J (Zb J (Zq _)))) ?_))))))))));rintro i u1 ⟨hI1,gl1⟩;have g:=g.trans gl1;replace E:=E.grow gl1;have hk8:=hk8.grow gl1;refine Zk (Zk (Zn (Zu J (Zu J (Zz J (fun _=>Qha Zd (Zc J)) (Ykb J J (Ze (kq (Um J (fun h1=>?_) (fun h1=>?_))))))))));replace h1:i<(listN t).length:=by simp only [Zah] at h1;omega
 obtain ⟨e0,p1,c1,hcell,_⟩:=Yr (t:=lT (listN t)) hk8 (i:=i) h1;have eL:Za (lT (listN t)) i=(listN t)[i]:=Yj (t:=lT (listN t)) h1;rw [eL] at hcell;refine Yu (kq (Zk (Yw (Zk (Zn (Zu J (Zu J (Zz J (fun _=>Xr Zd (Zc J) (Zc J) (fun _=>O) (fun _=>e0)) (Xa Xt J (Xn Xc J (hcell.one (i:=1) J) (Zu J (Uhe J J (Ze (kq (Um J (fun h2=>?_) (fun h2=>?_))))))))))))))));replace h2:(listN t)[i].text=s:=by simpa using h2
 refine Zk (Zn (Xf J (Ze (kq (We (Vz J J ?_))))));refine ⟨Jzg ?_,g⟩;rw [eq_comm,occB,List.any_eq_true];exact ⟨_,Ada h1,Jyg h2⟩;replace h2:(listN t)[i].text≠s:=by simpa using h2
 refine Yu (kq (Zn (Zu J (Zz J (fun _=>Qdb (Zc J) Xv (fun _=>O)) (Xf J (Vh [(6,_,_),(1,_,_),(5,_,_)] (Zb J (Zb J (Zb J (Zq _)))) (Ze (fun a ha=>?_))))))));refine ⟨i+1,ha,⟨⟨h1,fun j hj hji=>?_⟩,gl1⟩,O⟩;by_cases e:j=i;subst e;exact h2;exact hI1.2 j hj O;replace h1:¬ i<(listN t).length:=by simp only [Zbh] at h1;omega
 refine Xka J (kq (Zk (Zn (Xf J (Ze (kq (We (Vz J J ?_))))))));refine ⟨Jzg ?_,g⟩;rw [eq_comm,occB,List.any_eq_false];intro x hx;obtain ⟨j,hj,rfl⟩:=List.getElem_of_mem hx;simpa using hI1.2 j hj O
theorem Jmg{t:Nd}(h:occB rnN t=false):Tn t:=by
 unfold occB at h;rw [List.any_eq_false] at h;intro y hy;simpa using h y hy
def renK(f:List UInt8)(l:List Nd)(i:Nat):List Nd:=(l.take i).map (renT f)++l.drop i
theorem Vhb(f:List UInt8)(l:List Nd)(i:Nat):(renK f l i).length=l.length:=by
 unfold renK;rw [List.length_append,Aaa,Aba,List.length_drop];omega
theorem Vye(f:List UInt8){l:List Nd}{i:Nat}(h:i<l.length):(renK f l i)[i]'(by rw [Vhb];exact h)=l[i]:=by
 unfold renK;rw [List.getElem_append_right (by rw [Aaa,Aba];omega)];rw [List.getElem_drop];congr 1;rw [Aaa,Aba];omega
theorem Zrd(f:List UInt8){l:List Nd}{i:Nat}(h:i<l.length):(renK f l i).set i (renT f l[i])=renK f l (i+1):=by
 unfold renK;have e:((l.take i).map (renT f)).length=i:=by rw [Aaa,Aba];omega
 rw [List.set_append_right _ _ O,e,Nat.sub_self,List.drop_eq_getElem_cons h,List.set_cons_zero,List.take_succ_eq_append_getElem h,List.map_append,List.append_assoc];rfl
theorem Jbd(f:List UInt8)(l:List Nd):renK f l l.length=l.map (renT f):=by unfold renK;rw [List.take_length,List.drop_length,List.append_nil]
theorem Jng{f:List UInt8}{t:Nd}(h:(((decide (t.kind=27) || decide (t.kind=6) || decide (t.kind=11) || decide (t.kind=3))&&decide (t.ref=1))&&decide (t.text=f))=true):rnN=renL f t:=by unfold renL dclB;rw [← Bool.and_assoc,h];rfl
theorem Jog{f:List UInt8}{t:Nd}(h:(((decide (t.kind=27) || decide (t.kind=6) || decide (t.kind=11) || decide (t.kind=3))&&decide (t.ref=1))&&decide (t.text=f))=false):t.text=renL f t:=by unfold renL dclB;rw [← Bool.and_assoc,h];rfl
theorem Joe(f:List UInt8):∀ (t:Nd) (v:Value) (D:Nat→Prop) (w:World),Kd w D t.kids v→count t≤1000000→Ret PP 25 #[ndV t v,Str f,Str rnN] w fun r w'=>(∃ p c,r=ndV (renT f t) (.slice p t.kids.length c)∧Kd w' (fun k=>(D k∧k<w.heap.size)∨w.heap.size≤k) (t.kids.map (renT f)) (.slice p t.kids.length c))∧G w w':=by
 refine Nd.ind fun t ih v D w hkD hc=>?_;obtain ⟨n0,hn0⟩:∃ n,n=w.heap.size:=⟨_,rfl⟩;have hk:Kd w (fun k=>D k∧k<n0) t.kids v:=Kd.mono hkD fun k hd h=>⟨hd,by rw [hn0];exact h⟩;obtain ⟨p,c,rfl,_⟩:=id hk;have hlen:=Wu t;have g:=G.refl w;refine Ul (m:=65) Tryz.func25 J J [(0,True,_),(1,True,_),(2,True,_)] (Zb J (Zb J (Zb J (Zq _)))) ?_;refine Zk (Zn (Zqa J (Zc J) J ?_));intro b3 w3 N3;have l3:=N3.ge g;have nat3:=N3.at_;have nsz3:=N3.size;have gsz3:=g.size;have g:=g.trans (N3.g);try have hk:=hk.grow (N3.g)
 try have hO:=hO.grow (N3.g)
 have E:=(Qs _).new N3;refine Yt J Zp J ?_;intro b6 w6 N6;have l6:=N6.ge g;have nat6:=N6.at_;have nsz6:=N6.size;have gsz6:=g.size;have g:=g.trans (N6.g);try have hk:=hk.grow (N6.g)
 try have hO:=hO.grow (N6.g)
 replace E:=E.new N6;refine Ze (kq (Zk (Zn (Xa Xd J (Xn Yf J (E.g1.at_ J) (Yjb J J (Zu J (Zv J J J (fun _=>Zh Xd (Zc J)) (Wb J J J (Zt Yf (Yc J id) (fun _=>E.g1.at_ J)) (Zv J J J (fun _=>Wna (Yc J id) Xv) (Zz J (fun _=>Xo (Zc J) (Yc J id)) (Zu J (Zv J J J (fun _=>Zh Xd (Zc J)) (Wb J J J (Zt Yf (Yc J id) (fun _=>E.g1.at_ J)) (Zv J J J (fun _=>Wna (Yc J id) Xv) (Zz J (fun _=>Xo (Zc J) (Yc J id)) (?_)))))))))))))))));refine Zu J (Zv J J J (fun _=>Zh Xd (Zc J)) (Wb J J J (Zt Yf (Yc J id) (fun _=>E.g1.at_ J)) (Zv J J J (fun _=>Wna (Yc J id) Xv) (Zz J (fun _=>Xo (Zc J) (Yc J id)) (Xf J (Ze (kq (Zk (Zk (Zn (Zu J (Zu J (Zv J J J (fun _=>Zh Qz (Zc J)) (Wb J J J (Zt Yf (Yc J id) (fun _=>E.g1.at_ J)) (Zv J J J (fun _=>Wna (Yc J id) Xv) (Zz J (fun _=>Wn (Zc J) (Yc J id)) (?_)))))))))))))))));refine Zu J (Zv J J J (fun _=>Zh Xt (Zc J)) (Wb J J J (Zt Xc (Yc J id) (fun _=>E.g1.at_ J)) (Zv J J J (fun _=>Zw (Zc J)) (Zv J J J (fun _=>Zxc (Yc J id) (Yc J id)) (Zz J (fun _=>Wn (Zc J) (Yc J id)) (Ze (kq (Um J (fun h1=>?_) (fun h1=>?_)))))))));have hR:=Jng h1;refine Zn (Zu J (Xa Xt J (Xi J Jjc (Zc J) (Zc J) J E.g1 J J ?_)));intro wS1 hgS1 hzS1 BS;replace E:=E.s1 hgS1 BS;have g:=Yaa g hgS1 (by intro k hk;injection hk with hk;omega);try have hk:=hk.keep hgS1 (fun k hk _ e=>by injection e with e;omega)
 try have hO:=hO.keep hgS1 (by rintro ⟨_,h,h'⟩;omega)
 refine Ze (kq (Zk (Zn (Jyc J Zd ?_))));intro b42 w42 e42 ho42 g42;have gsz42:=g.size;have hlt42:=E.ltm (X:=[b3,b6]) Os;have q3:=hlt42 b3 Os;have q6:=hlt42 b6 Os;replace E:=E.grow g42;have hk:=hk.grow g42;have g:=g.trans g42;have gz42:=g42.size;refine Xa Zg J (Xn Zi J (E.g1.at_ J) (Wbc (D:=fun k=>((D k∧k<n0)∨n0≤k)∧k≠b3∧k≠b6) J Zd Zp J (Zc J) (ho42 n0 O) ⟨.inr O,O,O⟩ (Zc J) hk (fun j hj=>⟨⟨.inl hj,O,O⟩,O⟩) O O ⟨.inr O,O,O⟩ ?_));intro a45 c45 w45 hO hg45 hb42;replace E:=E.keep hg45 (by simp;omega);have g:=Yaa g hg45 (by intro k hk;injection hk with hk;omega);have hO:OwnK 26 (fun k=>((D k∧k<n0)∨n0≤k)∧k≠b3∧k≠b6) n0 w45 (renK f t.kids 0) (.slice a45 t.kids.length c45):=hO;clear hk;refine Xf J (Ze (kq (Zk (Zk (Zn (Xf J (Ze (kq (Yw (?_))))))))));have hnd1:=E.1;refine Qa (fun (i:Nat) u1=>(i≤t.kids.length∧OwnK 26 (fun k=>((D k∧k<n0)∨n0≤k)∧k≠b3∧k≠b6) n0 u1 (renK f t.kids i) (.slice a45 t.kids.length c45))∧G w u1) _ [(1,True,_),(2,True,_),(3,True,_),(6,True,_),(8,True,_)] (fun (i:Nat)=>[(9,True,.int .i64 i)]) (fun (i:Nat)=>t.kids.length-i) (0) ⟨⟨Aca _,hO⟩,g⟩ (Zx (blkE E.g1) (Zx (blkE E.g0) (Wa _))) (Zb J (Zb J (Zb J (Zb J (Zb J (Zb J (Zq _))))))) ?_;clear E;rintro i u1 ⟨hI1,gl1⟩ ⟨B3,B6,_⟩;replace B3:Blk _ _ _ _:=B3;replace B6:Blk _ _ _ _:=B6;have g:=gl1;clear hO;obtain ⟨hi,hO⟩:=hI1;have E:=Vwa (L:=[(b6,_,_),(b3,_,_)]) hnd1 ⟨B6,B3,trivial⟩ rfl;refine Zk (Zk (Zn (Zu J (Zu J (Zz J (fun _=>Qha Zd (Zc J)) (Ykb J J (Ze (kq (Um J (fun h2=>?_) (fun h2=>?_))))))))))
 replace h2:i<t.kids.length:=by simp only [Zah] at h2;omega
 have hkl:=Vhb f t.kids i;obtain ⟨gg,cc,l,es,hB,hfit,_,_,⟨u,hu,hku⟩,_⟩:=hO.seti (i:=i) (by rw [hkl];exact h2);injection es with e1 _ e3;subst e1 e3;rw [Vye f h2] at hu hku;have hcell:=hB.row.part (i*9) 9;rw [hu] at hcell;have hck:=Zpa h2;have hgl:=hB.lt;have gsz:=g.size;have q3:=E.ltm (X:=[b3,b6]) Os b3 Os;have q6:=E.ltm (X:=[b3,b6]) Os b6 Os;refine Yu (kq (Zk (Yw (Zn (Zu J (Zu J (Zu J (Zu J (Zz J (fun _=>Xr Zd (Zc J) (Zc J) (fun _=>O) (fun _=>J)) (Va Zf J J hcell (Zu J (Zu J (Xe J (Zy Jxa Wz (aqc J (aqc J (aqc J aq0))) J) (ih _ (Ada h2) _ _ _ hku O) ?_)))))))))))));rintro v60 w60 ⟨⟨p60,c60,rfl,k60⟩,g60⟩;refine ⟨fun _=>g60,?_⟩;have g:=g.trans (g60);replace E:=E.grow (g60);try have hk:=hk.grow (g60)
 try have hO:=hO.grow (g60)
 obtain ⟨g2,c2,l2,es2,hB2,hfit2,hDg2,hge2,_,hset⟩:=hO.seti (i:=i) (by rw [hkl];exact h2);injection es2 with e1 _ e3;injection e1 with e1;injection e1 with e1;subst e1 e3;refine Zz J (fun _=>Xr Zd (Zc J) (Zc J) (fun _=>O) (fun _=>J)) (Xb J Yk (Zc J) (Zc J) J J hB2 (by rw [Nat.ble_eq];show 0+i*9+9≤l2.length;omega) J ?_);intro w61 hg61 hz61 B61;have hg61:World.grownBy _ w61 (some gg):=hg61;have n3:=hDg2.2.1;have n6:=hDg2.2.2;have B61:Blk w61 gg 26 (l2.take (0+i*9)++ndCells (renT f t.kids[i]) (.slice p60 t.kids[i].kids.length c60)++l2.drop (0+i*9+(ndCells (renT f t.kids[i]) (.slice p60 t.kids[i].kids.length c60)).length)):=B61;rw [Nat.zero_add] at B61;have hO:=hset hg61 B61 (D':=fun k=>((D k∧k<n0)∨n0≤k)∧k≠b3∧k≠b6) (fun _ h=>h) (by rw [Zfa];exact (k60.keep hg61 (fun k hk _ e=>by injection e with e;rcases hk with hk|hk;exact hk.1.2 e;omega)).mono fun k hk _=>by rcases hk with hk|hk;exact hk.1;exact ⟨⟨.inr O,O,O⟩,O⟩);rw [Zrd f h2,Vhb] at hO;replace E:=E.keep hg61 (by simp;omega);have g:=Yaa g hg61 (by intro k hk;injection hk with hk;omega);refine Ze (kq (Zn (Zu J (Zz J (fun _=>Qdb (Zc J) Xv (fun _=>O)) (Xf J (Vh [(9,_,_),(1,_,_),(2,_,_),(3,_,_),(6,_,_),(8,_,_)] (Zb J (Zb J (Zb J (Zb J (Zb J (Zb J (Zq _))))))) (Ze (fun a ha=>?_))))))));exact ⟨i+1,ha,⟨⟨h2,hO⟩,g⟩,(Zx (blkE E.g1) (Zx (blkE E.g0) (Wa _))),O⟩;replace h2:i=t.kids.length:=by simp only [Zbh] at h2;omega
 subst h2;rw [Jbd] at hO;refine Xka J (kq (Zk (Zn (Zu J (Xa Zg J (Xi J Vi (Zc J) (Zc J) J E.g1 J J ?_))))));intro wS3 hgS3 hzS3 BS;replace E:=E.s1 hgS3 BS;have g:=Yaa g hgS3 (by intro k hk;injection hk with hk;omega);try have hk:=hk.keep hgS3 (fun k hk _ e=>by injection e with e;omega)
 try have hO:=hO.keep hgS3 (by rintro ⟨_,h,h'⟩;omega)
 refine Ze (kq (Zk (Zn (Va Zf J J E.g1.row (Xq J Yk (Zc J) (Zc J) J J E.g0 J J ?_)))));intro wS4 hgS4 hzS4 BS;replace E:=E.s0 hgS4 BS;have g:=Yaa g hgS4 (by intro k hk;injection hk with hk;omega);try have hk:=hk.keep hgS4 (fun k hk _ e=>by injection e with e;omega)
 try have hO:=hO.keep hgS4 (by rintro ⟨_,h,h'⟩;omega)
 refine Ze (kq (We (Yya J (Yoa J Zf J (E.g0.row) (Uc)) ?_)));refine ⟨⟨a45,c45,?_,hO.kd fun k hk=>by rw [← hn0];exact hk.1⟩,g⟩;rw [Qr,← hR];rfl;have hR:=Jog h1;refine Yu (kq (Zk (Zn (Jyc J Zd ?_))));intro b42 w42 e42 ho42 g42;have gsz42:=g.size;have hlt42:=E.ltm (X:=[b3,b6]) Os;have q3:=hlt42 b3 Os;have q6:=hlt42 b6 Os;replace E:=E.grow g42;have hk:=hk.grow g42;have g:=g.trans g42;have gz42:=g42.size;refine Xa Zg J (Xn Zi J (E.g1.at_ J) (Wbc (D:=fun k=>((D k∧k<n0)∨n0≤k)∧k≠b3∧k≠b6) J Zd Zp J (Zc J) (ho42 n0 O) ⟨.inr O,O,O⟩ (Zc J) hk (fun j hj=>⟨⟨.inl hj,O,O⟩,O⟩) O O ⟨.inr O,O,O⟩ ?_));intro a45 c45 w45 hO hg45 hb42;replace E:=E.keep hg45 (by simp;omega);have g:=Yaa g hg45 (by intro k hk;injection hk with hk;omega);have hO:OwnK 26 (fun k=>((D k∧k<n0)∨n0≤k)∧k≠b3∧k≠b6) n0 w45 (renK f t.kids 0) (.slice a45 t.kids.length c45):=hO;clear hk;refine Xf J (Ze (kq (Zk (Zk (Zn (Xf J (Ze (kq (Yw (?_))))))))));have hnd1:=E.1;refine Qa (fun (i:Nat) u1=>(i≤t.kids.length∧OwnK 26 (fun k=>((D k∧k<n0)∨n0≤k)∧k≠b3∧k≠b6) n0 u1 (renK f t.kids i) (.slice a45 t.kids.length c45))∧G w u1) _ [(1,True,_),(2,True,_),(3,True,_),(6,True,_),(8,True,_)] (fun (i:Nat)=>[(9,True,.int .i64 i)]) (fun (i:Nat)=>t.kids.length-i) (0) ⟨⟨Aca _,hO⟩,g⟩ (Zx (blkE E.g1) (Zx (blkE E.g0) (Wa _))) (Zb J (Zb J (Zb J (Zb J (Zb J (Zb J (Zq _))))))) ?_;clear E;rintro i u1 ⟨hI1,gl1⟩ ⟨B3,B6,_⟩;replace B3:Blk _ _ _ _:=B3;replace B6:Blk _ _ _ _:=B6;have g:=gl1;clear hO;obtain ⟨hi,hO⟩:=hI1
 have E:=Vwa (L:=[(b6,_,_),(b3,_,_)]) hnd1 ⟨B6,B3,trivial⟩ rfl;refine Zk (Zk (Zn (Zu J (Zu J (Zz J (fun _=>Qha Zd (Zc J)) (Ykb J J (Ze (kq (Um J (fun h2=>?_) (fun h2=>?_))))))))));replace h2:i<t.kids.length:=by simp only [Zah] at h2;omega
 have hkl:=Vhb f t.kids i;obtain ⟨gg,cc,l,es,hB,hfit,_,_,⟨u,hu,hku⟩,_⟩:=hO.seti (i:=i) (by rw [hkl];exact h2);injection es with e1 _ e3;subst e1 e3;rw [Vye f h2] at hu hku;have hcell:=hB.row.part (i*9) 9;rw [hu] at hcell;have hck:=Zpa h2;have hgl:=hB.lt;have gsz:=g.size;have q3:=E.ltm (X:=[b3,b6]) Os b3 Os;have q6:=E.ltm (X:=[b3,b6]) Os b6 Os;refine Yu (kq (Zk (Yw (Zn (Zu J (Zu J (Zu J (Zu J (Zz J (fun _=>Xr Zd (Zc J) (Zc J) (fun _=>O) (fun _=>J)) (Va Zf J J hcell (Zu J (Zu J (Xe J (Zy Jxa Wz (aqc J (aqc J (aqc J aq0))) J) (ih _ (Ada h2) _ _ _ hku O) ?_)))))))))))));rintro v60 w60 ⟨⟨p60,c60,rfl,k60⟩,g60⟩;refine ⟨fun _=>g60,?_⟩;have g:=g.trans (g60);replace E:=E.grow (g60);try have hk:=hk.grow (g60)
 try have hO:=hO.grow (g60)
 obtain ⟨g2,c2,l2,es2,hB2,hfit2,hDg2,hge2,_,hset⟩:=hO.seti (i:=i) (by rw [hkl];exact h2);injection es2 with e1 _ e3;injection e1 with e1;injection e1 with e1;subst e1 e3;refine Zz J (fun _=>Xr Zd (Zc J) (Zc J) (fun _=>O) (fun _=>J)) (Xb J Yk (Zc J) (Zc J) J J hB2 (by rw [Nat.ble_eq];show 0+i*9+9≤l2.length;omega) J ?_);intro w61 hg61 hz61 B61;have hg61:World.grownBy _ w61 (some gg):=hg61;have n3:=hDg2.2.1;have n6:=hDg2.2.2;have B61:Blk w61 gg 26 (l2.take (0+i*9)++ndCells (renT f t.kids[i]) (.slice p60 t.kids[i].kids.length c60)++l2.drop (0+i*9+(ndCells (renT f t.kids[i]) (.slice p60 t.kids[i].kids.length c60)).length)):=B61;rw [Nat.zero_add] at B61;have hO:=hset hg61 B61 (D':=fun k=>((D k∧k<n0)∨n0≤k)∧k≠b3∧k≠b6) (fun _ h=>h) (by rw [Zfa];exact (k60.keep hg61 (fun k hk _ e=>by injection e with e;rcases hk with hk|hk;exact hk.1.2 e;omega)).mono fun k hk _=>by rcases hk with hk|hk;exact hk.1;exact ⟨⟨.inr O,O,O⟩,O⟩);rw [Zrd f h2,Vhb] at hO;replace E:=E.keep hg61 (by simp;omega);have g:=Yaa g hg61 (by intro k hk;injection hk with hk;omega);refine Ze (kq (Zn (Zu J (Zz J (fun _=>Qdb (Zc J) Xv (fun _=>O)) (Xf J (Vh [(9,_,_),(1,_,_),(2,_,_),(3,_,_),(6,_,_),(8,_,_)] (Zb J (Zb J (Zb J (Zb J (Zb J (Zb J (Zq _))))))) (Ze (fun a ha=>?_))))))));exact ⟨i+1,ha,⟨⟨h2,hO⟩,g⟩,(Zx (blkE E.g1) (Zx (blkE E.g0) (Wa _))),O⟩;replace h2:i=t.kids.length:=by simp only [Zbh] at h2;omega
 subst h2;rw [Jbd] at hO;refine Xka J (kq (Zk (Zn (Zu J (Xa Zg J (Xi J Vi (Zc J) (Zc J) J E.g1 J J ?_))))));intro wS2 hgS2 hzS2 BS;replace E:=E.s1 hgS2 BS;have g:=Yaa g hgS2 (by intro k hk;injection hk with hk;omega);try have hk:=hk.keep hgS2 (fun k hk _ e=>by injection e with e;omega)
 try have hO:=hO.keep hgS2 (by rintro ⟨_,h,h'⟩;omega)
 refine Ze (kq (Zk (Zn (Va Zf J J E.g1.row (Xq J Yk (Zc J) (Zc J) J J E.g0 J J ?_)))));intro wS3 hgS3 hzS3 BS;replace E:=E.s0 hgS3 BS;have g:=Yaa g hgS3 (by intro k hk;injection hk with hk;omega);try have hk:=hk.keep hgS3 (fun k hk _ e=>by injection e with e;omega)
 try have hO:=hO.keep hgS3 (by rintro ⟨_,h,h'⟩;omega)
 refine Ze (kq (We (Yya J (Yoa J Zf J (E.g0.row) (Uc)) ?_)));refine ⟨⟨a45,c45,?_,hO.kd fun k hk=>by rw [← hn0];exact hk.1⟩,g⟩;rw [Qr,← hR];rfl
theorem Jcd(t:Nd)(s:List UInt8)(v:Value)(D:Nat→Prop)(w:World)(hL:LaidW w.heap.size w)(hkD:Kd w D t.kids v)(hct:count t≤1048576):Ret PP 8 #[ndV t v,Str s] w fun r w'=>r = .bool true∧G w w':=by
 obtain ⟨n0,hn0⟩:∃ n,n=w.heap.size:=⟨_,rfl⟩;have hk:Kd w (fun k=>k<n0) t.kids v:=Kd.mono hkD fun k _ h=>by rw [hn0];exact h
 obtain ⟨p,c,rfl,_⟩:=id hk;have g:=G.refl w;refine Ul (m:=45) Tryz.func8 J J [(0,True,_),(1,True,_)] (Zb J (Zb J (Zq _))) ?_;refine Zk (Zn (Zqa J (Zc J) J ?_));intro b2 w2 N2;have l2:=N2.ge g;have nat2:=N2.at_;have nsz2:=N2.size;have g:=g.trans (N2.g);try have hk:=hk.grow (N2.g)
 have E:=(Qs _).new N2;refine Xf J (Ze (kq (Zk (Zk (Zn (Xe J (Zy Zxd Wz (aq0) J) (Jee _ ((hL.grow g).top)) ?_))))));rintro v12 w12 ⟨rfl,g12⟩;refine ⟨fun _=>g12,?_⟩;have g:=g.trans (g12);replace E:=E.grow (g12);try have hk:=hk.grow (g12)
 refine Wxg J (Ze (kq (Um J (fun h1=>?_) (fun h1=>?_))))
 ·exact absurd h1 Od
  done
 (try simp only [bsimp] at h1);refine Yu (kq (Zk (Zk (Zn (Va Zf J J E.g0.row (Xe J (Zy Jjb Wz (aqc J aq0) J) (Uwe t _ _ _ hk O) ?_))))));rintro v15 w15 ⟨rfl,g15⟩;refine ⟨fun _=>g15,?_⟩;have g:=g.trans (g15);replace E:=E.grow (g15);try have hk:=hk.grow (g15)
 refine Qpf J J (Zu J (Wb J J J (Zo Zf (Zc J) J (fun _=>E.g0.row)) (Zha J J J (fun _=>(Zy Qvc Wz (Yn (Yc J id) (Yn Xv (Xw))) J)) (fun hc=>Jne rnN t _ _ _ hk (by have:=Zdh hc.2;omega)) (fun w19 g19=>?_))));have g:=g.trans (g19);replace E:=E.grow (g19);try have hk:=hk.grow (g19)
 refine Zz J (fun _=>Xo (Zc J) (Yc J id)) (Ze (kq (Um J (fun h2=>?_) (fun h2=>?_))))
 ·(try simp only [bsimp] at h2)
  refine Zk (Zn (Xf J (Ze (kq (We (Vz J J ?_))))));exact ⟨by first|rfl|exact Jzg (by rw [Udc];rfl),g⟩
 have h2a:count t≤200:=by have:=Zdh (Aea.1 h2).1;omega
 have h2b:Tn t:=Jmg (Aea.1 h2).2;refine Yu (kq (Zk (Zn (Va Zf J J E.g0.row (Xe J (Zy Qia Wz (aqc J aq0) J) (Xmc t _ _ _ [b2] hk O ((hL.grow g).top) (E.ltm Ob) g.size) ?_)))));rintro v23 w23 ⟨⟨p23,c23,rfl,q23,k23⟩,g23⟩;refine ⟨fun _=>g23,?_⟩;have g:=g.trans (g23);replace E:=E.grow (g23);try have hk:=hk.grow (g23)
 try have k23:=k23.grow (g23)
 refine Zu J (Ju J J (Ju J J (Ju J J (Yt J Zp J ?_))));intro b5 w5 N5;have l5:=N5.ge g;have nat5:=N5.at_;have nsz5:=N5.size;try have k23:=k23.new N5
 have g:=g.trans (N5.g);try have hk:=hk.grow (N5.g)
 try have k23:=k23.grow (N5.g)
 replace E:=E.new N5;refine Xq J Yk (Zc J) (Zc J) J J E.g0 J J ?_;intro wS1 hgS1 hzS1 BS;replace E:=E.s0 hgS1 BS;have g:=Yaa g hgS1 (by intro k hk;injection hk with hk;omega);try have hk:=hk.keep hgS1 (fun k hk _ e=>by injection e with e;omega)
 try have k23:=k23.keep hgS1 Oi
 refine Xf J (Xf J (Ze (kq (Zk (Zk (Zn (Zu J (Zdf J J (Ze (kq (Um J (fun h3=>?_) (fun h3=>?_))))))))))))
 ·(try simp only [bsimp] at h3)
  refine Zk (Zn (Xf J (Ze (kq (We (Vz J J ?_))))));exact ⟨by first|rfl|exact Jzg (by rw [Udc];rfl),g⟩
 replace h3:(refCheck t).2.2=0:=by simpa using h3
 obtain ⟨hv,er⟩:=Qfg h3;have eA:(refCheck t).1=refA t:=by rw [er]
 have hcA:count (refCheck t).1≤200:=by rw [eA,Yzg hv];exact h2a
 have hz:(refS t).ee=0:=by rw [← Qtg hv];exact h3
 have eR:refCheck (renT s (refCheck t).1)=(renT s (refCheck t).1,0,0):=by rw [eA];exact Ywe hv hz h2b
 refine Yu (kq (Zk (Zn (Va Zf J J E.g0.row (Zu J (Xe J (Zy Jxa Wz (aqc J (aqc J (aqc J aq0))) J) (Joe s (refCheck t).1 _ _ _ k23 O) ?_))))));rintro v31 w31 ⟨⟨p31,c31,rfl,k31⟩,g31⟩;refine ⟨fun _=>g31,?_⟩;have g:=g.trans (g31);replace E:=E.grow (g31);try have hk:=hk.grow (g31)
 try have k23:=k23.grow (g31)
 try have k31:=k31.grow (g31)
 rw [← Zfa] at k31;have k31:Kd w31 (fun k=>k<w31.heap.size) (renT s (refCheck t).1).kids (.slice p31 (refCheck t).1.kids.length c31):=Kd.mono k31 fun k _ h=>h;refine Yt J Zp J ?_;intro b8 w8 N8;have l8:=N8.ge g;have nat8:=N8.at_;have nsz8:=N8.size;try have k23:=k23.new N8
 have g:=g.trans (N8.g);try have hk:=hk.grow (N8.g)
 try have k23:=k23.grow (N8.g)
 try have k31:=k31.grow (N8.g)
 replace E:=E.new N8;refine Xq J Yk (Zc J) (Zc J) J J E.g0 J J ?_;intro wS2 hgS2 hzS2 BS;replace E:=E.s0 hgS2 BS;have g:=Yaa g hgS2 (by intro k hk;injection hk with hk;omega);try have hk:=hk.keep hgS2 (fun k hk _ e=>by injection e with e;omega)
 try have k23:=k23.keep hgS2 Oi
 try have k31:=k31.keep hgS2 (fun k hk _ e=>by injection e with e;have hk:k<w31.heap.size:=hk;omega)
 refine Ze (kq (Zk (Zn (Va Zf J J E.g0.row (Xe J (Zy Qia Wz (aqc J aq0) J) (Xmc (renT s (refCheck t).1) _ _ _ [b2] k31 (by rw [Qtd];omega) ((hL.grow g).top) (E.ltm Ob) g.size) ?_)))));rintro v34 w34 ⟨⟨p34,c34,rfl,q34,k34⟩,g34⟩;refine ⟨fun _=>g34,?_⟩;have g:=g.trans (g34);replace E:=E.grow (g34);try have hk:=hk.grow (g34)
 try have k23:=k23.grow (g34)
 try have k31:=k31.grow (g34)
 try have k34:=k34.grow (g34)
 rw [eR];rw [eR] at k34;have sz34:=g34.size;refine Zu J (Ju J J (Ju J J (Ju J J (Yt J Zp J ?_))));intro b9 w9 N9;have l9:=N9.ge g;have nat9:=N9.at_;have nsz9:=N9.size;try have k23:=k23.new N9
 try have k34:=k34.new N9
 have g:=g.trans (N9.g);try have hk:=hk.grow (N9.g)
 try have k23:=k23.grow (N9.g)
 try have k31:=k31.grow (N9.g)
 try have k34:=k34.grow (N9.g)
 replace E:=E.new N9;refine Xq J Yk (Zc J) (Zc J) J J E.g0 J J ?_;intro wS3 hgS3 hzS3 BS;replace E:=E.s0 hgS3 BS;have g:=Yaa g hgS3 (by intro k hk;injection hk with hk;omega);try have hk:=hk.keep hgS3 (fun k hk _ e=>by injection e with e;omega)
 try have k23:=k23.keep hgS3 Oi
 try have k31:=k31.keep hgS3 (fun k hk _ e=>by injection e with e;have hk:k<w31.heap.size:=hk;omega)
 try have k34:=k34.keep hgS3 Oi
 refine Xf J (Xf J (Ze (kq (Zk (Zn (Zu J (Yjb J J (Zu J (Wb J J J (Zo Zf (Zc J) J (fun _=>E.g0.row)) (Wb J J J (Zo Zf (Zc J) J (fun _=>E.g1.row)) (Zha J J J (fun _=>(Zy Xuc Wz (Yn (Yc J id) (Yn (Yc J id) (Xw))) J)) (fun hc=>Ypf _ _ _ _ _ _ _ k34 k31 (by rw [Qtd];omega)) (fun w43 g43=>?_))))))))))));have g:=g.trans (g43);replace E:=E.grow (g43);try have hk:=hk.grow (g43)
 try have k23:=k23.grow (g43)
 try have k31:=k31.grow (g43)
 try have k34:=k34.grow (g43)
 refine Zz J (fun _=>Wn (Zc J) (Yc J id)) (Xf J (Ze (kq (We (Vz J J ?_)))));exact ⟨by first|rfl|exact Jzg (by rw [Udc];rfl),g⟩
end Go.Rk
