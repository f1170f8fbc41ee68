/- Merged texts. Conditions: each text's own. -/
import Derived.Test.YtmpfjifhkmdbaaaGreatDoorH02
import Derived.Test.YtmpfjifhkmdbaaaGreatDoorH05
import Derived.RecoverIn
import Derived.Test.YtmpfjifhkmdbaaaGreatDoorH01
import Derived.Test.YtmpfjifhkmdbaaaGreatDoorH03
set_option linter.unusedSimpArgs false
set_option linter.unusedVariables false
set_option maxHeartbeats 16000000
set_option maxRecDepth 100000
open Bool renaming and_eq_true_iff→Aka,noConfusion→Aqa
open Go renaming World→Aa,TypeId→Ba,PanicEntry→Da,Operand→Ea,Program→Fa,Value→Ga
open Go.Value renaming slice→Ha
open Int renaming toNat_natCast→Ava
open List renaming all_eq_true→Aca,length_append→Aga,forall_mem_cons→Aha,length_map→Aia,mem_cons→Aja,mem_cons_of_mem→Ana,take_of_length_le→Ata,length_take→Aua,length_singleton→Awa,map_cons→Axa,not_mem_nil→Aya,map_append→Baa,take_succ_eq_append_getElem→Bba,getElem?_eq_none→Bda,getElem?_eq_getElem→Bea,mem_of_getElem?→Bfa,forall_mem_nil→Bga,map_congr_left→Bha,getElem?_take→Bia
open Nat renaming beq→Aaa,blt→Aba,lt_of_lt_of_le→Aea,le_refl→Afa,beq_refl→Ala,zero_le→Ama,eq_of_beq_eq_true→Aoa,le_trans→Apa,zero_add→Ara,ble→Asa,eq_zero_or_pos→Bca
open Option renaming map_eq_some_iff→Ada,map_some→Aza
namespace Go.Proofs
end Go.Proofs
namespace Go.Rk
open Go.Proofs
open Go Go.RowKit
def GV(V:Nat→Prop)(w w':Aa):Prop:=GB V w w'
section
variable {V:Nat→Prop} {w w' w0:Aa}
theorem GV.refl(V:Nat→Prop)(w:Aa):GV V w w:=GB.refl V w
theorem GV.trans(h:GV V w0 w)(k:GV V w w'):GV V w0 w':=GB.trans h k
theorem GV.size(h:GV V w w'):w.heap.size≤w'.heap.size:=GB.size h
theorem GV.of_g(h:G w w'):GV V w w':=GB.of_g h
theorem Jra{b:Nat}(h:GV V w0 w)(hg:w.grownBy w' (some b))(hb:w0.heap.size≤b):GV V w0 w':=Xre h hg (.inr hb)
theorem Utd{b:Nat}(h:GV V w0 w)(hg:w.grownBy w' (some b))(hb:V b):GV V w0 w':=Xre h hg (.inl hb)
end
def EnV(ms mg mn mf k:Nat):Prop:=k=ms∨k=mg∨k=mn∨k=mf
theorem Obk.keepM{w w':Aa}{L:List (Nat×Ba×List Ga)}{m:Nat}{es:List (List UInt8×Ga)}(E:Obk w L)(hM:MapS w m es)(hg:w.grownBy w' (some m)):Obk w' L:=⟨E.1,Xea E.2 fun b e l _ h=>h.keep hg (Xu (hM.nblk h).symm)⟩
theorem Vif{B:Nat→Prop}{w0 w w':Aa}{row:Option Nat}(h:GV B w0 w)(hg:w.grownBy w' row)(hr:∀ k,row=some k→B k∨w0.heap.size≤k):GV B w0 w' :=
 ⟨hg.os.trans h.os,hg.tape.trans h.tape,hg.output.trans h.output,Apa h.size hg.size,fun k hk hn=>(hg.block k (Aea hk h.size) (fun e=>(hr k e.symm).elim hn O)).trans (h.block k hk hn)⟩
theorem LaidW.keepr{n0:Nat}{w w':Aa}{row:Option Nat}(h:LaidW n0 w)(hg:w.grownBy w' row)(hr:∀ k,row=some k→n0≤k):LaidW n0 w' :=
 h.below ⟨hg.os,hg.tape,hg.output,hg.size,fun k hk=>hg.block k (Aea hk h.hn) fun e=>by have:=hr k e.symm;omega⟩
theorem LaidW.grow{n0:Nat}{w w':Aa}(h:LaidW n0 w)(g:G w w'):LaidW n0 w':=h.keepr (row:=none) (g.only _) fun k e=>by cases e
theorem Vjf{n:Nat}{σ:List Ent}{c:Prop}{wb:Aa}{ty m:Nat}{x y:Ea}{F:Nd}{i:Nat}(h:MapS wb m (allK (F.kids.take i)))(hx:Ev n σ c x (.map (some m)))(hy:Ev n σ c y (Str (Za F i).text)) :
 Rd PP n σ c wb (.lookup 51 x y false) ty (.bool (dupAt F i)):=by
 have k:=Ujc (ty:=ty) Vsa Ufd Yad h hx hy;rw [Qke] at k;exact k
theorem Znc{F:Nd}{i:Nat}(h:∀ j,j<i→dupAt F j=false)(k:dupAt F i=false):∀ j,j<i+1→dupAt F j=false:=fun j hj=>by
 by_cases e:j=i;rw [e];exact k;exact h j O
theorem Yab(d:Nd):(parT d).length=(Za d 0).kids.length:=Aia ..
theorem Zid{d:Nd}{j:Nat}(h:j<(Za d 0).kids.length):((parT d).take (j+1)).flatMap tyCells=((parT d).take j).flatMap tyCells++tyCells (ofF (Za (Za (Za d 0) j) 0)).1:=by
 have hl:j<(parT d).length:=by rw [Yab];exact h
 have e:(parT d)[j]=(ofF (Za (Za (Za d 0) j) 0)).1:=by
  rw [Yj (t:=Za d 0) h];exact List.getElem_map ..
 rw [Bba hl,List.flatMap_append,e];simp
def EnBad(V:Nat→Prop)(F:Nd)(w:Aa)(ch:List Da)(w':Aa):Prop:=ch=[failE (namA F rs0 F.kids.length).ea (namA F rs0 F.kids.length).ee]∧(namA F rs0 F.kids.length).ee≠0∧GV V w w'
theorem Uig{V:Nat→Prop}{F:Nd}{w w1 w':Aa}{i:Nat}{ch:List Da}(hi:i<F.kids.length)(h0:∀ j,j<i→dupAt F j=false)(g:GV V w w1)(hz:(!dupAt F i)=false∧ch=[failE (Za F i).pos 6]∧G w1 w'):EnBad V F w ch w':=by
 obtain ⟨h1,h2,h3⟩:=hz;obtain ⟨e1,e2⟩:=Yhg (S:=rs0) rfl hi h0 (by simpa using h1);exact ⟨by rw [e1,e2];exact h2,by rw [e1];decide,g.trans (GV.of_g h3)⟩
theorem Qxe{F:Nd}{n0 b:Nat}{fv:Ga}{ms mg mn mf:Nat}{w:Aa}(hv:validB F=true)(hF:count F≤1000000)(hb:n0≤b)(hB0:Blk w b 59 (pcCells F fv ms mg mn mf (.slice none 0 0) (.slice none 0 0) (.slice none 0 0)))
    (hkw : Kd w (fun k => k < n0) F.kids fv) (hL : LaidW n0 w) (s0 : MapS w ms []) (g0 : MapS w mg []) (m0 : MapS w mn []) (f0 : MapS w mf []) (ds : (ms ≠ mg ∧ ms ≠ mn ∧ ms ≠ mf) ∧ (mg ≠ mn ∧ mg ≠ mf) ∧ mn ≠ mf) (hm : n0 ≤ ms ∧ n0 ≤ mg ∧ n0 ≤ mn ∧ n0 ≤ mf) :
    RetP PP 29 #[.pointer (some ⟨b, 0, none⟩)] w (fun r w' => r = .tuple #[] ∧ (∀ j, j < F.kids.length → dupAt F j = false) ∧ (∃ m2 pv TB, EnT F w.heap.size b fv ms mg mn mf m2 pv TB F.kids.length w') ∧ GV (EnV ms mg mn mf) w w') (EnBad (EnV ms mg mn mf) F w) := by
  obtain ⟨p, c, rfl, _⟩ := id hkw
  obtain ⟨h1F, hpF⟩ := Vab hv
  have hd := Xjc h1F hpF
  have hkl := Wu F
  have hk00 := hkw
  have hL0 := hL
  have hms := s0.lt
  have hmg := g0.lt
  have hmn := m0.lt
  have hmf := f0.lt
  have hnw := hL.hn
  have g := GV.refl (EnV ms mg mn mf) w
  refine Vd (m := 106) Tryz.func29 J J [(0, True, _)] (Zb J (Zq _)) ?_
  refine AU ?_
  refine Qaa J ?_
  intro m2 w8 em2 g8 z8 hM8
  have g := g.trans (GV.of_g g8)
  replace E := Qs w8
  have hl2 : w.heap.size ≤ m2 := by rw [em2]; exact Afa _
  obtain ⟨pv, TB, h⟩ : ∃ pv TB, EnT F w.heap.size b (.slice p F.kids.length c) ms mg mn mf m2 pv TB 0 w8 := ⟨fun _ => .slice none 0 0, [], hB0.grow g8, s0.grow g8, g0.grow g8, m0.grow g8, f0.grow g8, hM8, fun j hj => absurd hj (by omega), fun j hj => (by cases hj), ⟨⟨ds.1.1, ds.1.2.1, ds.1.2.2, by omega⟩, ⟨ds.2.1.1, ds.2.1.2, by omega⟩, ⟨ds.2.2, by omega⟩, by omega⟩⟩
  have hL := hL.grow g8
  have hk0 := hkw.grow g8
  refine AU ?_
  refine Qa (fun (i : Nat) u1 => (i ≤ F.kids.length ∧ (∀ j, j < i → dupAt F j = false) ∧ ∃ pv TB, EnT F w.heap.size b (.slice p F.kids.length c) ms mg mn mf m2 pv TB i u1) ∧ GV (EnV ms mg mn mf) w u1) _ [(0, True, _), (2, True, _), (13, True, _), (14, True, _)] (fun (i : Nat) => [(15, True, .int .i64 i)]) (fun (i : Nat) => F.kids.length - i) (0) ⟨⟨Ama _, fun j hj => absurd hj (by omega), pv, TB, h⟩, g⟩ (Wa _) (Zb J (Zb J (Zb J (Zb J (Zb J (Zq _)))))) ?_
  rintro i u1 ⟨hI1, gl1⟩ _
  have g := gl1
  obtain ⟨hi, hdu, pv, TB, h⟩ := hI1
  have hL := hL0.below ⟨gl1.os, gl1.tape, gl1.output, gl1.size, fun k hk => gl1.block k (by omega) (by unfold EnV; omega)⟩
  have hk0 := Wk hk00 (fun _ h _ => h) fun k hk hlt => gl1.block k hlt (by unfold EnV; omega)
  refine IF (fun h1 => ?_) fun h1 => ?_
  · replace h1 : i < F.kids.length := by simp only [Zah] at h1; omega
    obtain ⟨e0, pd, cd, hcellw, hkidw⟩ := Yr hk00 (i := i) h1
    have hDp := Vq hk00 (show 0 < F.kids.length by omega)
    have hcell := Jc hcellw (gl1.block (pb p) (by omega) (by unfold EnV; omega))
    have hkid := Wk hkidw (fun _ h _ => h) fun k hk hlt => gl1.block k hlt (by unfold EnV; omega)
    have hm1 := Jpa h1
    have hcd := Wi h1
    have hkl1 := Wu (Za F i)
    have hpd := (hd _ hm1).2
    refine AU ?_
    refine Yt J Zp J ?_
    intro b4 w4 N4
    have l4 := Wc N4 g.size
    have hp4 := h
    have g := g.trans (GV.of_g (N4.g))
    have h := h.grow (N4.g)
    have hL := hL.grow (N4.g)
    have hk0 := hk0.grow (N4.g)
    have hkid := hkid.grow (N4.g)
    have E := (Qs _).new N4
    refine Zra Yk J J J E.g0 ?_
    intro wS1 hgS1 _ BS
    have C4 := E.g0
    replace E := E.s0 hgS1 BS
    have g := Jra g hgS1 (by omega)
    have h := h.keep hgS1 C4 rfl
    have hL := hL.keepr hgS1 (fun k e => by injection e with e; omega)
    have hk0 := hk0.keep hgS1 (fun k hk _ e => by injection e with e; omega)
    have hkid := hkid.keep hgS1 (fun k hk _ e => by injection e with e; omega)
    refine Ze (kq (Zk ?_))
    refine Vkb [3, 3, 0, 0, 3, 3, 0, 1] ?_
    refine AU ?_
    refine Qb J (Vjf h.hq (Zc J) (Zc J)) ?_
    refine AU ?_
    refine Y3 J Yd J J J (Wy _ _ _ _) ((fun ch w' hz => Uig h1 hdu g hz)) ?_
    rintro v26 w26 ⟨rfl, hq26, g26⟩
    refine ⟨fun _ => g26, ?_⟩
    have g := g.trans (GV.of_g (g26))
    replace E := E.grow g26
    have h := h.grow (g26)
    have hL := hL.grow (g26)
    have hk0 := hk0.grow (g26)
    have hkid := hkid.grow (g26)
    have hdi : dupAt F i = false := by simpa using hq26
    refine AU ?_
    refine Wga J Vsa Ufd h.hq (Zhd hdi) (Zc J) (Zc J) Xv ?_
    intro wq hMq hgq hzq
    replace E := E.keepM h.hq hgq
    have g := Jra g hgq (by omega)
    have hk0 := hk0.keep hgq (fun k hk _ e => by injection e with e; omega)
    have hkid := hkid.keep hgq (fun k hk _ e => by injection e with e; omega)
    have hL := hL.keepr hgq (fun k e => by injection e with e; omega)
    have h := h.uq hgq hMq
    refine IF (fun h2 => ?_) fun h2 => ?_
    · replace h2 : (Za F i).kind = 2 := Zch h2
      refine Xg [3, 3, 3, 0, 3, 0, 2] [true, true, true, true, true, true, true] [0, 1, 3, 7, 0, 16, 63] mix (by kernel_rfl) ?_
      have g := g.trans (GV.of_g (G.drew _))
      replace E := E.dr
      have h := h.grow (G.drew _)
      refine AU ?_
      refine Wga J Vsa Ufd h.hs (Zzb hdi 2 _) (Zc J) (Zc J) Xv ?_
      intro ws hMs hgs hzs
      replace E := E.keepM h.hs hgs
      have g := Utd g hgs (by unfold EnV; omega)
      have h := h.us hgs hMs
      refine AU ?_
      refine SK [15, 0, 2, 13, 14] ?_
      refine Ze (fun a ha => ?_)
      exact ⟨i + 1, ha, ⟨⟨by omega, Znc hdu hdi, pv, TB, ent_2 h1 h2 h⟩, g⟩, trivial, by omega⟩
    replace h2 : (Za F i).kind ≠ 2 := Zdh h2
    refine IF (fun h3 => ?_) fun h3 => ?_
    · replace h3 : (Za F i).kind = 6 := Zch h3
      obtain ⟨hl6, ht6, _⟩ := pf6 h3 hpd
      have hkt := Wu (Za (Za F i) 0)
      have hct := Wi (t := Za F i) (i := 0) (by omega)
      refine AU ?_
      refine Xg [3, 3, 3, 0, 3, 0, 3, 3, 3, 0, 0, 2] [true, true, true, true, true, true, true, true, true, true, true, true] [0, 1, 3, 7, 0, 16, 0, 64, 192, 448, 960, 2047] mix (by kernel_rfl) ?_
      have g := g.trans (GV.of_g (G.drew _))
      replace E := E.dr
      have h := h.grow (G.drew _)
      have hL := hL.grow (G.drew _)
      have hkid := hkid.grow (G.drew _)
      refine AU ?_
      refine Qb J (Wge Xxf h.hg (Zc J)) (Wga J Vsa Xxg h.hn (Zzb hdi 6 _) (Zc J) (Zc J) (Zc J) ?_)
      intro wn hMn hgn hzn
      rw [Wtb] at hMn
      replace E := E.keepM h.hn hgn
      have g := Utd g hgn (by unfold EnV; omega)
      have hkid := hkid.keep hgn (fun k hk _ e => by injection e with e; omega)
      have hL := hL.keepr hgn (fun k e => by injection e with e; omega)
      have h := h.un hgn hMn
      refine AU ?_
      refine Xg [3, 3, 3, 0, 3, 0, 3, 0, 3, 0, 1, 2] [true, true, true, true, true, true, true, true, true, true, true, true] [0, 1, 3, 7, 0, 16, 0, 64, 192, 448, 960, 2047] mix (by kernel_rfl) ?_
      have g := g.trans (GV.of_g (G.drew _))
      replace E := E.dr
      have h := h.grow (G.drew _)
      have hL := hL.grow (G.drew _)
      have hkid := hkid.grow (G.drew _)
      obtain ⟨e1, p1, c1, hc1, hk1⟩ := Yr hkid (i := 0) (by omega)
      refine AU ?_
      refine CP (Vtb (Za (Za F i) 0) _ _ _ hL.hL hL.hb hL.hT (by omega)) (fun w63 g63 => ?_)
      have g := g.trans (GV.of_g (g63))
      replace E := E.grow g63
      have h := h.grow (g63)
      refine Wga J Vsa Xxf h.hg (Zzb hdi 6 _) (Zc J) (Zc J) (Zc J) ?_
      intro wt hMt hgt hzt
      replace E := E.keepM h.hg hgt
      have g := Utd g hgt (by unfold EnV; omega)
      have h := h.ug hgt hMt
      refine AU ?_
      refine SK [15, 0, 2, 13, 14] ?_
      refine Ze (fun a ha => ?_)
      exact ⟨i + 1, ha, ⟨⟨by omega, Znc hdu hdi, pv, TB, ent_6 h1 h3 h⟩, g⟩, trivial, by omega⟩
    replace h3 : (Za F i).kind ≠ 6 := Zdh h3
    refine IF (fun h4 => ?_) fun h4 => ?_
    · replace h4 : (Za F i).kind = 4 := Zch h4
      obtain ⟨hl4, ⟨hk5, hpp⟩, ht1, _⟩ := pf4 h4 hpd
      have hkt := Wu (Za (Za F i) 1)
      have hct := Wi (t := Za F i) (i := 1) (by omega)
      have hkp := Wu (Za (Za F i) 0)
      have hcp := Wi (t := Za F i) (i := 0) (by omega)
      obtain ⟨e1, p1, c1, hc1, hk1⟩ := Yr hkid (i := 1) (by omega)
      obtain ⟨e2, p2, c2, hc2w, hk2w⟩ := Yr hkidw (i := 0) (by omega)
      have hDd := Vq hkidw (show 0 < (Za F i).kids.length by omega)
      refine AU ?_
      refine Yx (rowR none) [3, 3, 3, 0, 0, 3, 0, 3, 0, 1, 3, 1, 2] [0, 1, 3, 7, 15, 0, 32, 96, 224, 511, 1023, 0, 4095] mix (by kernel_rfl) [0, 1, 2, 3, 4, 5, 6, 7, 8, 9, 10, 11, 12] J ?_
      have g := g.trans (GV.of_g (G.drew _))
      replace E := E.dr
      have h := h.grow (G.drew _)
      have hL := hL.grow (G.drew _)
      have hk0 := hk0.grow (G.drew _)
      have hkid := hkid.grow (G.drew _)
      have hc1 := hc1.grow (G.drew _)
      refine Zr 0 J J (fun _ => Zw (Zc J)) (Zr 1 J J (fun _ => Zxa (Zc J)) (Zr 2 J J (fun _ => Zh Ql (Zc J)) (Yg 3 J J (fun w1 hx => Zt Wp (Zc J) (fun _ => (h.B.keep hx (fun h => nomatch h)).at_ J)) (Yg 4 J J (fun w1 hx => Wge Xwe (h.hf.keep hx (fun h => nomatch h)) (Zc J)) (Zr 5 J J (fun _ => Zh Zg (Zc J)) (Yg 6 J J (fun w1 hx => Zt Zi (Zc J) (fun _ => (E.g0.keep hx (fun h => nomatch h)).at_ J)) (Zr 7 J J (fun _ => Xr Zd (Zc J) Xv (fun _ => by omega) (fun _ => e1)) (Yg 8 J J (fun w1 hx => Zo Zf (Zc J) J (fun _ => hc1.kn hx)) (Yib 9 11 J J ?_ ?_)))))))))
      · refine Zl (L' := [10, 11, 12]) [3, 3, 3, 0, 0, 3, 0, 3, 0, 1, 3, 1, 2] rfl rfl rfl ?_
        refine CP (Vtb (Za (Za F i) 1) _ _ _ hL.hL hL.hb hL.hT (by omega)) (fun w75 g75 => ?_)
        have g := g.trans (GV.of_g (g75))
        replace E := E.grow g75
        have h := h.grow (g75)
        have hL := hL.grow (g75)
        have hk0 := hk0.grow (g75)
        have hkid := hkid.grow (g75)
        refine Zs ((g75).only _) ?_
        refine Zr 10 J J (fun _ => Qt [_, _, _, _] Uf J Xna (Uq (Zc J) (Uq (Zc J) (Up))) J) (Zm 11 J J ?_)
        refine Zl (L' := [12]) [3, 3, 3, 0, 0, 3, 0, 3, 0, 1, 3, 1, 2] J J J ?_
        refine Yt J Uf J ?_
        intro b5 w5 N5
        have l5 := Wc N5 g.size
        have hp5 := h
        have g := g.trans (GV.of_g (N5.g))
        have h := h.grow (N5.g)
        have hL := hL.grow (N5.g)
        have hk0 := hk0.grow (N5.g)
        have hkid := hkid.grow (N5.g)
        replace E := E.new N5
        refine Zs ((N5.g).only _) ?_
        refine Zm 12 J J ?_
        refine Ys (L' := []) [3, 3, 3, 0, 0, 3, 0, 3, 0, 1, 3, 1, 2] J J J J ?_
        refine Zra Zua J J J E.g0 ?_
        intro wS2 hgS2 _ BS
        have C5 := E.g0
        replace E := E.s0 hgS2 BS
        have g := Jra g hgS2 (by omega)
        have h := h.keep hgS2 C5 rfl
        have hL := hL.keepr hgS2 (fun k e => by injection e with e; omega)
        have hk0 := hk0.keep hgS2 (fun k hk _ e => by injection e with e; omega)
        have hkid := hkid.keep hgS2 (fun k hk _ e => by injection e with e; omega)
        refine Xm ?_
        refine Vaa [(0, _, _), (2, _, _), (4, _, _), (5, _, _), (13, _, _), (14, _, _), (15, _, _)] (Zb J (Zb J (Zb J (Zb J (Zb J (Zb J (Zb J (Zq _)))))))) (Jl (kq (Zk (Zk (Zn (?_))))))
        have hc2 := Jc hc2w (g.block (pb pd) (by omega) (by unfold EnV; omega))
        have hlo : ∀ j ∈ TB, j < b5 := fun j hj => by have := (hp5.tb j hj).2; have := N5.at_; omega
        refine Xa Zg J (Xn Zi J (E.g1.at_ J) (Yja Zd J J (by omega) e2 (Xa Zg J (Xn Zi J (hc2.one (i := 4) J) (Xva Zd J (Zu J (Ze (kq (Yw (?_))))))))))
        have hnd2 := E.1
        refine Qa (fun (j : Nat) u2 => (j ≤ (Za (Za F i) 0).kids.length ∧ TabE F w.heap.size b (.slice p F.kids.length c) ms mg mn mf m2 pv TB (numK 2 (fun _ _ => .bool true) (F.kids.take i) 0) (numK 6 (fun _ d => tyV (ofF (Za d 0)).1) (F.kids.take i) 0) (numK 6 (fun k _ => .int .i64 k) (F.kids.take i) 0) (numK 4 (fun k d => fnV k (pv k) (resT d)) (F.kids.take i) 0) (allK (F.kids.take i) ++ [((Za F i).text, .bool true)]) i u2 ∧ ∃ v, Blk u2 b5 61 [.int .i64 (cntK 4 (F.kids.take i)), v, .int .i64 (resT (Za F i)).kind, Str (resT (Za F i)).name] ∧ u2.ownsRow b5 24 2 v j (((parT (Za F i)).take j).flatMap tyCells)) ∧ GV (EnV ms mg mn mf) w u2) _ [(0, True, _), (2, True, _), (4, True, _), (5, True, _), (13, True, _), (14, True, _), (15, True, _), (81, True, _), (82, True, _)] (fun (j : Nat) => [(83, True, .int .i64 j)]) (fun (j : Nat) => (Za (Za F i) 0).kids.length - j) (0) ⟨⟨Ama _, h, _, (by have q := E.g0; rw [Wtb] at q; exact q), Jk _ _ _ _⟩, g⟩ (Zx (blkE E.g1) (Wa _)) (Zb J (Zb J (Zb J (Zb J (Zb J (Zb J (Zb J (Zb J (Zb J (Zb J (Zq _))))))))))) ?_
        clear E
        rintro j u2 ⟨hI2, gl2⟩ ⟨B4, _⟩
        replace B4 : Blk _ _ _ _ := B4
        have g := gl2
        obtain ⟨hj, h, v, B5, ho⟩ := hI2
        obtain ⟨va, vc, rfl, _⟩ := Zya ho
        have hL := hL0.below ⟨gl2.os, gl2.tape, gl2.output, gl2.size, fun k hk => gl2.block k (by omega) (by unfold EnV; omega)⟩
        have hk0 := Wk hk00 (fun _ h _ => h) fun k hk hlt => gl2.block k hlt (by unfold EnV; omega)
        have hkid := Wk hkidw (fun _ h _ => h) fun k hk hlt => gl2.block k hlt (by unfold EnV; omega)
        have hk2 := Wk hk2w (fun _ h _ => h) fun k hk hlt => gl2.block k hlt (by unfold EnV; omega)
        have hlt5 := B5.lt
        have E := Vwa (L := [(b5, _, _), (b4, _, _)]) hnd2 ⟨B5, B4, trivial⟩ rfl
        refine IF (fun h5 => ?_) fun h5 => ?_
        · replace h5 : j < (Za (Za F i) 0).kids.length := by simp only [Zah] at h5; omega
          obtain ⟨ef, pf, cf, hcf, hkf⟩ := Yr hk2 (i := j) h5
          have hmf := Jpa h5
          have hf3 := Yna (.inr hk5) hpp _ hmf
          have hfl := (pf3 hf3.1 hf3.2).1
          have hcF := Wi h5
          have hcG := Wi (t := Za (Za (Za F i) 0) j) (i := 0) (by omega)
          have hkG := Wu (Za (Za (Za (Za F i) 0) j) 0)
          refine AU ?_
          refine Yt J Zp J ?_
          intro b7 w7 N7
          have l7 := Wc N7 g.size
          have hp7 := h
          have g := g.trans (GV.of_g (N7.g))
          have h := h.grow (N7.g)
          have hL := hL.grow (N7.g)
          have hkf := hkf.grow (N7.g)
          have ho := Xl ho (N7.g)
          replace E := E.new N7
          refine Zra Yk J J J E.g0 ?_
          intro wS3 hgS3 _ BS
          have C7 := E.g0
          replace E := E.s0 hgS3 BS
          have g := Jra g hgS3 (by omega)
          have h := h.keep hgS3 C7 rfl
          have hL := hL.keepr hgS3 (fun k e => by injection e with e; omega)
          have hkf := hkf.keep hgS3 (fun k hk _ e => by injection e with e; omega)
          have ho := Yi ho hgS3 (.inr (Xy ho C7 rfl))
          refine AU ?_
          refine Xg [3, 0, 3, 0, 3, 0, 1, 1, 2, 3, 2] [true, true, true, true, true, true, true, true, true, true, true] [0, 1, 0, 4, 12, 28, 60, 124, 255, 511, 1023] mix (by kernel_rfl) ?_
          have g := g.trans (GV.of_g (G.drew _))
          replace E := E.dr
          have h := h.grow (G.drew _)
          have hL := hL.grow (G.drew _)
          have hkf := hkf.grow (G.drew _)
          have ho := Xl ho (G.drew _)
          obtain ⟨eg, pg, cg, hcg, hkg⟩ := Yr hkf (i := 0) (by omega)
          refine AU ?_
          refine CP (Vtb (Za (Za (Za (Za F i) 0) j) 0) _ _ _ hL.hL hL.hb hL.hT (by omega)) (fun w93 g93 => ?_)
          have g := g.trans (GV.of_g (g93))
          replace E := E.grow g93
          have h := h.grow (g93)
          have ho := Xl ho (g93)
          refine Ya _ J Wd Yz (pqc J pq0) J J ?_
          intro b94 w94 N94
          have l94 := Wc N94 g.size
          have hp94 := h
          have B94 := N94.blk
          have g := g.trans (GV.of_g (N94.g))
          replace E := E.grow N94.g
          have h := h.grow (N94.g)
          have ho := Xl ho (N94.g)
          refine Ur J Wd Yz J (by decide) (Zc J) ho (Zc J) J N94.blk.row J (by simp only [maxLen]; omega) (by omega) (by have := E.g1.lt; omega) ?_
          intro a95 c95 w95 ho95 hg95 hat95
          replace E := E.keepN ho hg95 rfl
          have g := Vif g hg95 (fun k e => .inr (by have := (ho.lt k e).1; omega))
          have h := h.keepO ho hg95 hlo
          replace ho := ho95
          refine AU ?_
          refine Xxb Uz J J J E.g1 ?_
          intro wS4 hgS4 _ BS
          have C5 := E.g1
          replace E := E.s1 hgS4 BS
          have g := Jra g hgS4 (by omega)
          have h := h.keep hgS4 C5 rfl
          have ho := Yi ho hgS4 (.inr (Xy ho C5 rfl))
          refine AU ?_
          refine SK [83, 0, 2, 4, 5, 13, 14, 15, 81, 82] ?_
          refine Ze (fun a ha => ?_)
          exact ⟨j + 1, ha, ⟨⟨by omega, h, _, E.g1, by rw [Zid h5]; exact ho⟩, g⟩, ⟨E.g2, trivial⟩, by omega⟩
        replace h5 : j = (Za (Za F i) 0).kids.length := by simp only [Zbh] at h5; omega
        subst h5
        refine AU ?_
        refine Xg [3, 3, 3, 0, 3, 0, 0, 2] [true, true, true, true, true, true, true, true] [0, 1, 3, 7, 0, 16, 0, 127] mix (by kernel_rfl) ?_
        have g := g.trans (GV.of_g (G.drew _))
        replace E := E.dr
        have h := h.grow (G.drew _)
        have ho := Xl ho (G.drew _)
        refine AU ?_
        refine Wga J Vsa Xwe h.hf (Zzb hdi 4 _) (Zc J) (Zc J) (Zc J) ?_
        intro wf hMf hgf hzf
        have ho := Yi ho hgf (.inr (fun e => by have := (ho.lt _ e).1; omega))
        replace E := E.keepM h.hf hgf
        have g := Utd g hgf (by unfold EnV; omega)
        have h := h.uf hgf hMf
        refine AU ?_
        refine SK [15, 0, 2, 13, 14] ?_
        refine Ze (fun a ha => ?_)
        exact ⟨i + 1, ha, ⟨⟨by omega, Znc hdu hdi, Wbg h1 h4 h (lo := b5) (by have q := ho; rw [Ata (by rw [Yab]; exact Afa _)] at q; rw [Yab]; exact q) (by omega)⟩, g⟩, trivial, by omega⟩
      · refine Zl (L' := [9, 10, 12]) [3, 3, 3, 0, 0, 3, 0, 3, 0, 1, 3, 1, 2] rfl rfl rfl ?_
        refine Yt J Uf J ?_
        intro b5 w5 N5
        have l5 := Wc N5 g.size
        have hp5 := h
        have g := g.trans (GV.of_g (N5.g))
        have h := h.grow (N5.g)
        have hL := hL.grow (N5.g)
        have hk0 := hk0.grow (N5.g)
        have hkid := hkid.grow (N5.g)
        replace E := E.new N5
        refine Zs ((N5.g).only _) ?_
        refine Zm 9 J J ?_
        refine Zl (L' := [10, 12]) [3, 3, 3, 0, 0, 3, 0, 3, 0, 1, 3, 1, 2] J J J ?_
        refine CP (Vtb (Za (Za F i) 1) _ _ _ hL.hL hL.hb hL.hT (by omega)) (fun w75 g75 => ?_)
        have g := g.trans (GV.of_g (g75))
        replace E := E.grow g75
        have h := h.grow (g75)
        have hL := hL.grow (g75)
        have hk0 := hk0.grow (g75)
        have hkid := hkid.grow (g75)
        refine Zs ((g75).only _) ?_
        refine Zr 10 J J (fun _ => Qt [_, _, _, _] Uf J Xna (Uq (Zc J) (Uq (Zc J) (Up))) J) (Zm 12 J J ?_)
        refine Ys (L' := []) [3, 3, 3, 0, 0, 3, 0, 3, 0, 1, 3, 1, 2] J J J J ?_
        refine Zra Zua J J J E.g0 ?_
        intro wS2 hgS2 _ BS
        have C5 := E.g0
        replace E := E.s0 hgS2 BS
        have g := Jra g hgS2 (by omega)
        have h := h.keep hgS2 C5 rfl
        have hL := hL.keepr hgS2 (fun k e => by injection e with e; omega)
        have hk0 := hk0.keep hgS2 (fun k hk _ e => by injection e with e; omega)
        have hkid := hkid.keep hgS2 (fun k hk _ e => by injection e with e; omega)
        refine Xm ?_
        refine Vaa [(0, _, _), (2, _, _), (4, _, _), (5, _, _), (13, _, _), (14, _, _), (15, _, _)] (Zb J (Zb J (Zb J (Zb J (Zb J (Zb J (Zb J (Zq _)))))))) (Jl (kq (Zk (Zk (Zn (?_))))))
        have hc2 := Jc hc2w (g.block (pb pd) (by omega) (by unfold EnV; omega))
        have hlo : ∀ j ∈ TB, j < b5 := fun j hj => by have := (hp5.tb j hj).2; have := N5.at_; omega
        refine Xa Zg J (Xn Zi J (E.g1.at_ J) (Yja Zd J J (by omega) e2 (Xa Zg J (Xn Zi J (hc2.one (i := 4) J) (Xva Zd J (Zu J (Ze (kq (Yw (?_))))))))))
        have hnd2 := E.1
        refine Qa (fun (j : Nat) u2 => (j ≤ (Za (Za F i) 0).kids.length ∧ TabE F w.heap.size b (.slice p F.kids.length c) ms mg mn mf m2 pv TB (numK 2 (fun _ _ => .bool true) (F.kids.take i) 0) (numK 6 (fun _ d => tyV (ofF (Za d 0)).1) (F.kids.take i) 0) (numK 6 (fun k _ => .int .i64 k) (F.kids.take i) 0) (numK 4 (fun k d => fnV k (pv k) (resT d)) (F.kids.take i) 0) (allK (F.kids.take i) ++ [((Za F i).text, .bool true)]) i u2 ∧ ∃ v, Blk u2 b5 61 [.int .i64 (cntK 4 (F.kids.take i)), v, .int .i64 (resT (Za F i)).kind, Str (resT (Za F i)).name] ∧ u2.ownsRow b5 24 2 v j (((parT (Za F i)).take j).flatMap tyCells)) ∧ GV (EnV ms mg mn mf) w u2) _ [(0, True, _), (2, True, _), (4, True, _), (5, True, _), (13, True, _), (14, True, _), (15, True, _), (81, True, _), (82, True, _)] (fun (j : Nat) => [(83, True, .int .i64 j)]) (fun (j : Nat) => (Za (Za F i) 0).kids.length - j) (0) ⟨⟨Ama _, h, _, (by have q := E.g0; rw [Wtb] at q; exact q), Jk _ _ _ _⟩, g⟩ (Zx (blkE E.g1) (Wa _)) (Zb J (Zb J (Zb J (Zb J (Zb J (Zb J (Zb J (Zb J (Zb J (Zb J (Zq _))))))))))) ?_
        clear E
        rintro j u2 ⟨hI2, gl2⟩ ⟨B4, _⟩
        replace B4 : Blk _ _ _ _ := B4
        have g := gl2
        obtain ⟨hj, h, v, B5, ho⟩ := hI2
        obtain ⟨va, vc, rfl, _⟩ := Zya ho
        have hL := hL0.below ⟨gl2.os, gl2.tape, gl2.output, gl2.size, fun k hk => gl2.block k (by omega) (by unfold EnV; omega)⟩
        have hk0 := Wk hk00 (fun _ h _ => h) fun k hk hlt => gl2.block k hlt (by unfold EnV; omega)
        have hkid := Wk hkidw (fun _ h _ => h) fun k hk hlt => gl2.block k hlt (by unfold EnV; omega)
        have hk2 := Wk hk2w (fun _ h _ => h) fun k hk hlt => gl2.block k hlt (by unfold EnV; omega)
        have hlt5 := B5.lt
        have E := Vwa (L := [(b5, _, _), (b4, _, _)]) hnd2 ⟨B5, B4, trivial⟩ rfl
        refine IF (fun h5 => ?_) fun h5 => ?_
        · replace h5 : j < (Za (Za F i) 0).kids.length := by simp only [Zah] at h5; omega
          obtain ⟨ef, pf, cf, hcf, hkf⟩ := Yr hk2 (i := j) h5
          have hmf := Jpa h5
          have hf3 := Yna (.inr hk5) hpp _ hmf
          have hfl := (pf3 hf3.1 hf3.2).1
          have hcF := Wi h5
          have hcG := Wi (t := Za (Za (Za F i) 0) j) (i := 0) (by omega)
          have hkG := Wu (Za (Za (Za (Za F i) 0) j) 0)
          refine AU ?_
          refine Yt J Zp J ?_
          intro b7 w7 N7
          have l7 := Wc N7 g.size
          have hp7 := h
          have g := g.trans (GV.of_g (N7.g))
          have h := h.grow (N7.g)
          have hL := hL.grow (N7.g)
          have hkf := hkf.grow (N7.g)
          have ho := Xl ho (N7.g)
          replace E := E.new N7
          refine Zra Yk J J J E.g0 ?_
          intro wS3 hgS3 _ BS
          have C7 := E.g0
          replace E := E.s0 hgS3 BS
          have g := Jra g hgS3 (by omega)
          have h := h.keep hgS3 C7 rfl
          have hL := hL.keepr hgS3 (fun k e => by injection e with e; omega)
          have hkf := hkf.keep hgS3 (fun k hk _ e => by injection e with e; omega)
          have ho := Yi ho hgS3 (.inr (Xy ho C7 rfl))
          refine AU ?_
          refine Xg [3, 0, 3, 0, 3, 0, 1, 1, 2, 3, 2] [true, true, true, true, true, true, true, true, true, true, true] [0, 1, 0, 4, 12, 28, 60, 124, 255, 511, 1023] mix (by kernel_rfl) ?_
          have g := g.trans (GV.of_g (G.drew _))
          replace E := E.dr
          have h := h.grow (G.drew _)
          have hL := hL.grow (G.drew _)
          have hkf := hkf.grow (G.drew _)
          have ho := Xl ho (G.drew _)
          obtain ⟨eg, pg, cg, hcg, hkg⟩ := Yr hkf (i := 0) (by omega)
          refine AU ?_
          refine CP (Vtb (Za (Za (Za (Za F i) 0) j) 0) _ _ _ hL.hL hL.hb hL.hT (by omega)) (fun w93 g93 => ?_)
          have g := g.trans (GV.of_g (g93))
          replace E := E.grow g93
          have h := h.grow (g93)
          have ho := Xl ho (g93)
          refine Ya _ J Wd Yz (pqc J pq0) J J ?_
          intro b94 w94 N94
          have l94 := Wc N94 g.size
          have hp94 := h
          have B94 := N94.blk
          have g := g.trans (GV.of_g (N94.g))
          replace E := E.grow N94.g
          have h := h.grow (N94.g)
          have ho := Xl ho (N94.g)
          refine Ur J Wd Yz J (by decide) (Zc J) ho (Zc J) J N94.blk.row J (by simp only [maxLen]; omega) (by omega) (by have := E.g1.lt; omega) ?_
          intro a95 c95 w95 ho95 hg95 hat95
          replace E := E.keepN ho hg95 rfl
          have g := Vif g hg95 (fun k e => .inr (by have := (ho.lt k e).1; omega))
          have h := h.keepO ho hg95 hlo
          replace ho := ho95
          refine AU ?_
          refine Xxb Uz J J J E.g1 ?_
          intro wS4 hgS4 _ BS
          have C5 := E.g1
          replace E := E.s1 hgS4 BS
          have g := Jra g hgS4 (by omega)
          have h := h.keep hgS4 C5 rfl
          have ho := Yi ho hgS4 (.inr (Xy ho C5 rfl))
          refine AU ?_
          refine SK [83, 0, 2, 4, 5, 13, 14, 15, 81, 82] ?_
          refine Ze (fun a ha => ?_)
          exact ⟨j + 1, ha, ⟨⟨by omega, h, _, E.g1, by rw [Zid h5]; exact ho⟩, g⟩, ⟨E.g2, trivial⟩, by omega⟩
        replace h5 : j = (Za (Za F i) 0).kids.length := by simp only [Zbh] at h5; omega
        subst h5
        refine AU ?_
        refine Xg [3, 3, 3, 0, 3, 0, 0, 2] [true, true, true, true, true, true, true, true] [0, 1, 3, 7, 0, 16, 0, 127] mix (by kernel_rfl) ?_
        have g := g.trans (GV.of_g (G.drew _))
        replace E := E.dr
        have h := h.grow (G.drew _)
        have ho := Xl ho (G.drew _)
        refine AU ?_
        refine Wga J Vsa Xwe h.hf (Zzb hdi 4 _) (Zc J) (Zc J) (Zc J) ?_
        intro wf hMf hgf hzf
        have ho := Yi ho hgf (.inr (fun e => by have := (ho.lt _ e).1; omega))
        replace E := E.keepM h.hf hgf
        have g := Utd g hgf (by unfold EnV; omega)
        have h := h.uf hgf hMf
        refine AU ?_
        refine SK [15, 0, 2, 13, 14] ?_
        refine Ze (fun a ha => ?_)
        exact ⟨i + 1, ha, ⟨⟨by omega, Znc hdu hdi, Wbg h1 h4 h (lo := b5) (by have q := ho; rw [Ata (by rw [Yab]; exact Afa _)] at q; rw [Yab]; exact q) (by omega)⟩, g⟩, trivial, by omega⟩
    replace h4 : (Za F i).kind ≠ 4 := Zdh h4
    refine AU ?_
    refine SK [15, 0, 2, 13, 14] ?_
    refine Ze (fun a ha => ?_)
    exact absurd (hd _ hm1).1 (by rintro (q | q | q) <;> contradiction)
  replace h1 : i = F.kids.length := by simp only [Zbh] at h1; omega
  subst h1
  refine Xka J (Ypa J ?_)
  exact ⟨rfl, hdu, ⟨m2, pv, TB, h⟩, g⟩
structure PB (F:Nd) (n0 b:Nat) (TB X:List Nat) (fv:Ga) (ms mg mn mf:Nat) (pv:Nat→Ga) (sv cv rv:Ga) (w:Aa):Prop where
  B:Blk w b 59 (pcCells F fv ms mg mn mf sv cv rv)
  hb:n0≤b
  kF:Kd w (fun k=>k<n0) F.kids fv
  hF:count F≤1000000
  T:Tab F TB ms mg mn mf pv w
  L:LaidW n0 w
  tx:∀ j∈TB,j∈X
  xl:∀ j∈X,j<w.heap.size
  bx:b∉X
def PX(F:Nd)(n0 b:Nat)(TB X:List Nat)(w:Aa):Prop:=∃ fv ms mg mn mf pv sv cv rv,PB F n0 b TB X fv ms mg mn mf pv sv cv rv w
section
variable {F:Nd} {n0 b:Nat} {TB X:List Nat} {r0:Option (List Ty)} {S:CSt} {fv:Ga} {ms mg mn mf:Nat} {pv:Nat→Ga} {sv cv rv sv' cv' rv':Ga} {w w' w1 w2:Aa}
theorem PB.gt(h:PB F n0 b TB X fv ms mg mn mf pv sv cv rv w)(g:GT (mutC X) n0 w w')(hB':Blk w' b 59 (pcCells F fv ms mg mn mf sv' cv' rv')):PB F n0 b TB X fv ms mg mn mf pv sv' cv' rv' w':=by
 have hB:Below n0 w w':=⟨g.os,g.tape,g.output,g.size,fun k hk=>g.block k (Aea hk h.L.hn) (.inl hk)⟩
 have m:∀ {k es},MapS w k es→MapS w' k es:=fun hm=>hm.same (g.block _ hm.lt (.inr fun ⟨cs,e,fr,h1,_⟩=>by
  obtain ⟨ms,c,hb,_⟩:=hm;rw [hb] at h1;injection h1 with h1;cases h1))
 refine ⟨hB',h.hb,Wk h.kF (fun _ h _=>h) (fun k hk _=>hB.block k hk),h.hF,⟨m h.T.hs,m h.T.hg,m h.T.hn,m h.T.hf,fun s hs=>(h.T.hp s hs).same fun k hk hlt _=>g.block k hlt (.inr fun ⟨cs,e,fr,h1,h2⟩=>?_)⟩,h.L.below hB,h.tx,fun j hj=>Aea (h.xl j hj) g.size,h.bx⟩;unfold mutC at h2;rw [Jyg (h.tx k hk)] at h2;simp at h2
theorem PB.grow(h:PB F n0 b TB X fv ms mg mn mf pv sv cv rv w)(g:G w w'):PB F n0 b TB X fv ms mg mn mf pv sv cv rv w':=h.gt (GT.of_g g) (h.B.grow g)
theorem PB.keep(h:PB F n0 b TB X fv ms mg mn mf pv sv cv rv w){j:Nat}{e:Ba}{l:List Ga}(hg:w.grownBy w' (some j))(hB:Blk w j e l)(hj:n0≤j)(he:typC e=false∨(j∈X∧j∉TB)):PB F n0 b TB X fv ms mg mn mf pv sv cv rv w':=by
 have hne:j≠b:=fun q=>by
  subst q;rcases he with he|he;have:=h.B;unfold Blk at hB this;rw [this] at hB;injection hB with hB;injection hB with _ hB;subst hB;exact Aqa (show true=false from he);exact h.bx he.1
 have hk:∀ k,k<w.heap.size→k≠j→w'.heap[k]? = w.heap[k]?:=fun k hk hn=>hg.block k hk fun e=>hn (by injection e);have m:∀ {k es},MapS w k es→MapS w' k es:=fun hm=>hm.keep hg fun q=>hm.nblk hB (by injection q);have hL:Below n0 w w':=⟨hg.os,hg.tape,hg.output,hg.size,fun k hk=>hg.block k (Aea hk h.L.hn) fun e=>by injection e with e;omega⟩;refine ⟨h.B.keep hg fun e=>hne (by injection e with e;exact e.symm),h.hb,h.kF.keep hg fun k hk _ e=>by injection e with e;omega,h.hF,⟨m h.T.hs,m h.T.hg,m h.T.hn,m h.T.hf,fun s hs=>(h.T.hp s hs).same fun k hkT hlt ⟨cs,fr,hc⟩=>hg.block k hlt fun e=>?_⟩,h.L.below hL,h.tx,fun i hi=>Aea (h.xl i hi) hg.size,h.bx⟩;injection e with e;subst e;rcases he with he|he;unfold Blk at hB;rw [hc] at hB;injection hB with hB;injection hB with _ hB;subst hB;exact Aqa (show true=false from he);exact he.2 hkT
theorem PB.px(h:PB F n0 b TB X fv ms mg mn mf pv sv cv rv w):PX F n0 b TB X w:=⟨_,_,_,_,_,_,_,_,_,h⟩
theorem PX.grow(h:PX F n0 b TB X w)(g:G w w'):PX F n0 b TB X w':=by obtain ⟨_,_,_,_,_,_,_,_,_,h⟩:=h;exact (h.grow g).px
theorem PX.keep(h:PX F n0 b TB X w){j:Nat}{e:Ba}{l:List Ga}(hg:w.grownBy w' (some j))(hB:Blk w j e l)(hj:n0≤j)(he:typC e=false∨(j∈X∧j∉TB)):PX F n0 b TB X w':=by obtain ⟨_,_,_,_,_,_,_,_,_,h⟩:=h;exact (h.keep hg hB hj he).px
theorem PX.laid(h:PX F n0 b TB X w):LaidW n0 w:=by obtain ⟨_,_,_,_,_,_,_,_,_,h⟩:=h;exact h.L
theorem PX.lt(h:PX F n0 b TB X w):n0≤b∧b<w.heap.size:=by obtain ⟨_,_,_,_,_,_,_,_,_,h⟩:=h;exact ⟨h.hb,h.B.lt⟩
theorem PX.tb(h:PX F n0 b TB X w):(∀ j∈TB,j∈X)∧∀ j∈X,j<w.heap.size:=by obtain ⟨_,_,_,_,_,_,_,_,_,h⟩:=h;exact ⟨h.tx,h.xl⟩
theorem PX.nx(h:PX F n0 b TB X w):b∉X:=by obtain ⟨_,_,_,_,_,_,_,_,_,h⟩:=h;exact h.bx
theorem PX.sub(h:PX F n0 b TB X w){Y:List Nat}(hT:∀ j∈TB,j∈Y)(hY:∀ j∈Y,j∈X):PX F n0 b TB Y w:=by
 obtain ⟨_,_,_,_,_,_,_,_,_,h⟩:=h;exact ⟨_,_,_,_,_,_,_,_,_,h.B,h.hb,h.kF,h.hF,h.T,h.L,hT,fun j hj=>h.xl j (hY j hj),fun hm=>h.bx (hY _ hm)⟩
theorem PC.px(h:PC F n0 b TB X r0 S w):PX F n0 b TB X w:=by
 obtain ⟨fv,ms,mg,mn,mf,pv,sv,cv,rv,vs,sc,h⟩:=h;exact ⟨_,_,_,_,_,_,_,_,_,h.B,h.hb,h.kF,h.hF,h.T,h.L,h.tx,h.xl,h.bx⟩
theorem PB.addX(h:PB F n0 b TB X fv ms mg mn mf pv sv cv rv w){j:Nat}{e:Ba}{l:List Ga}(N:New w w' j e l):PB F n0 b TB (j::X) fv ms mg mn mf pv sv cv rv w':=by
 have k:=h.grow N.g
 exact ⟨k.B,k.hb,k.kF,k.hF,k.T,k.L,fun i hi=>Ana _ (k.tx i hi),fun i hi=>by
  rcases Aja.1 hi with q|q;subst q;exact N.blk.lt;exact k.xl i q,fun hm=>by
  rcases Aja.1 hm with q|q;have:=h.B.lt;have:=N.at_;omega;exact h.bx q⟩
end
def BadD(n0:Nat)(X:List Nat)(T:CSt)(w:Aa)(ch:List Da)(w':Aa):Prop:=ch=[failE T.ea T.ee]∧T.ee≠0∧GT (mutC X) n0 w w'
theorem Zjd{n0:Nat}{X:List Nat}{S T:CSt}{q:Bool}{a e:Int}{ch:List Da}{w0 w1 w:Aa}(he:S.ee=0)(hn:e≠0)(hE:Er (failU q a e S) T)(hz:q=false∧ch=[failE a e]∧G w w1)(g:GT (mutC X) n0 w0 w):BadD n0 X T w0 ch w1:=by
 obtain ⟨rfl,rfl,g1⟩:=hz;rw [Wja he] at hE;obtain ⟨h2,h1⟩:=hE hn;exact ⟨by rw [h1,h2],by rw [h2];exact hn,g.trans (GT.of_g g1)⟩
theorem Bad.d{n0 b L:Nat}{X X':List Nat}{T U:CSt}{ch:List Da}{w w0 w':Aa}(h:Bad n0 b X' L T w ch w')(hE:Er T U)(g:GT (mutC X) n0 w0 w)(hX:∀ j∈X,j∈X':=by intro j hj;simp [hj]):BadD n0 X U w0 ch w':=by
 obtain ⟨h1,h2,_,h5⟩:=h;obtain ⟨e1,e2⟩:=hE h2;exact ⟨by rw [h1,e1,e2],by rw [e1];exact h2,gtw g h5 hX⟩
theorem Zoc{F:Nd}{n0 b:Nat}{TB X:List Nat}{w:Aa}(t:Nd)(p:Option Addr)(c:Nat)(h:PX F n0 b TB X w):RetP PP 52 #[.pointer (some ⟨b,0,none⟩),ndV t (.slice p t.kids.length c)] w (fun r w'=>r = .tuple #[]∧(!decide (t.kind=8) || !decide ((findD F 2 t.text).2<0))=true∧G w w') (fun ch w'=>(!decide (t.kind=8) || !decide ((findD F 2 t.text).2<0))=false∧ch=[failE t.pos 5]∧G w w'):=by
 obtain ⟨fv,ms,mg,mn,mf,pv,sv,cv,rv,h⟩:=h;have g:=G.refl w;refine Vd (m:=19) Tryz.func52 J J [(0,True,_),(1,True,_)] (Zb J (Zb J (Zq _))) ?_;refine BM fun _ _ _ _ g E=>?_;refine AU ?_;refine Yx (rowR none) [3,0,3,3,3,3,3,0,3,0,0,3,3,0,1] [0,1,3,7,15,31,63,127,15,271,1023,2047,0,4096,16383] mix KR [0,1,2,3,4,5,6,7,8,9,10,11,12,13,14] J ?_;have g:=gdr g;replace E:=E.dr;refine Zr 0 J J (fun _=>Zh Xd (Zc J)) (Yg 1 J J (fun w1 hx=>Zt Yf (Zc J) (fun _=>(E.g0.keep hx (fun h=>nomatch h)).at_ J)) (Zr 2 J J (fun _=>Woa (Zc J) Xv) (Zr 3 J J (fun _=>Zw (Zc J)) (Yqa (L':=[5,6,7,8,9,10,11,12,13,14]) 4 J J J J J (fun _=>Zw (Zc J)) (Yqa (L':=[6,7,8,9,10,11,12,13,14]) 5 J J J J J (fun _=>Zxa (Yc J id)) (Yqa (L':=[7,8,9,10,11,12,13,14]) 6 J J J J J (fun _=>Zh Jy (Yc J id)) (Vba (L':=[8,9,10,11,12,13,14]) 7 J J J J J (fun w1 hx=>Zt Je (Yc J id) (fun _=>((h.B.grow g).keep hx (fun h=>nomatch h)).at_ J)) (Yqa (L':=[9,10,11,12,13,14]) 8 J J J J J (fun _=>Zh Xt (Zc J)) (Vba (L':=[10,11,12,13,14]) 9 J J J J J (fun w1 hx=>Zt Xc (Yc J id) (fun _=>(E.g0.keep hx (fun h=>nomatch h)).at_ J)) (Vba (L':=[11,12,13,14]) 10 J J J J J (fun w1 hx=>Xcc ((h.T.hs.grow g).keep hx (fun h=>nomatch h)) (Yc J id) (Yc J id)) (Zr 11 J J (fun _=>Xo (Zc J) (Yc J id)) (Zr 12 J J (fun _=>Zh Xp (Zc J)) (Yg 13 J J (fun w1 hx=>Zt Yf (Zc J) (fun _=>(E.g0.keep hx (fun h=>nomatch h)).at_ J)) (Zm 14 J J ?_))))))))))))));refine Zl (L':=[]) [3,0,3,3,3,3,3,0,3,0,0,3,3,0,1] J J J ?_;refine Y3 J Yd J J J (Wy _ _ _ _) ((fun ch w' hz=>⟨hz.1,hz.2.1,g.trans hz.2.2⟩)) ?_;rintro v18 w18 ⟨rfl,hq,g18⟩;refine ⟨fun _=>g18,?_⟩
 have g:=g.trans g18;replace E:=E.grow g18;refine Zs ((g18).only _) ?_;refine TK [] ?_;refine Jl (Ypa J ?_);exact ⟨rfl,hq,g⟩
theorem Qye{F:Nd}{n0 b:Nat}{TB X:List Nat}{S:CSt}{fv:Ga}{ms mg mn mf:Nat}{pv:Nat→Ga}{cv:Ga}{w:Aa}(h:PB F n0 b TB X fv ms mg mn mf pv (.slice none 0 0) cv (.slice none 0 0) w)(co:w.ownsRow n0 3 1 cv 1 [.int .i64 0])(cx:∀ k,cv.ownBlock=some k→k∉X) :
 Ret PP 54 #[.pointer (some ⟨b,0,none⟩)] w fun r w'=>r = .tuple #[]∧PC F n0 b TB X none (funS0 S) w'∧GT (mutC X) n0 w w':=by
 have hnn:=h.L.hn;have so:w.ownsRow n0 82 1 (.slice none 0 0) 0 []:=Jk _ _ _ _;have g:=GT.refl (mutC X) n0 w;refine WK 11 [0] Tryz.func54 ?_;refine Zn (Zu J (Zu J (Vx J (Xa Yv J (Xn Yl J (h.B.at_ J) (CM fun _ w7 N7 _ g E=>?_))))));have h:=h.grow (N7.g);have so:=Xl so (N7.g);have co:=Xl co (N7.g);refine Ur J Yp Yca J Od (Zc J) so (Zc J) J N7.blk.row J Od Od (by have:=g.size;omega) ?_;intro a8 c8 w8 ho8 hg8 hat8;have B8:Blk w8 b 59 _:=h.B.keep hg8 (fun e=>Xy so h.B rfl e.symm);replace E:=Qs w8;refine AU ?_;refine Xi J Vf (Zc J) (Zc J) J B8 J J ?_;intro w11 hg11 hz11 B11;have g8:GT (mutC X) n0 w7 w8:=Zgc so rfl (fun k hk=>by cases hk) hg8;have g11:GT (mutC X) n0 w8 w11:=Uda B8 rfl h.hb h.bx hg11;have K:=h.gt (g8.trans g11) B11;have so11:=Yi ho8 hg11 (.inr (Xy ho8 B8 rfl));have co8:=Yi co hg8 (Ysa co so rfl);have co11:=Yi co8 hg11 (.inr (Xy co8 B8 rfl));have ro11:w11.ownsRow n0 24 2 (.slice none 0 0) 0 []:=Jk _ _ _ _;have sr11:ScR 84 n0 w11 ([]++[.slice none 0 0]) ([]++[[]]):=ScR.push ⟨rfl,fun i v l h=>(by cases h),fun i j v u h=>(by cases h)⟩
 have k11:PK F n0 b TB X none (funS0 S) fv ms mg mn mf pv (.slice a8 (0+1) c8) cv (.slice none 0 0) [.slice none 0 0] [[]] w11:=⟨B11,K.hb,K.kF,K.hF,K.T,K.L,so11,sr11,rfl,rfl,fun i l hi v hv=>(by
  rcases Bca i with z|z;subst z;injection hi with hi;subst hi;cases hv;rw [Bda (by show 1≤_;omega)] at hi;cases hi),co11,ro11,fun l e=>(by cases e),K.tx,K.xl,K.bx,fun k hk hm=>(by
  rcases hat8 with q|q;rw [q] at hk;cases hk;rw [hk] at q;injection q with q;have:=h.xl k hm;omega),fun i v hv k hk=>(by
  rcases Bca i with z|z;subst z;injection hv with hv;subst hv;cases hk;rw [Bda (by show 1≤_;omega)] at hv;cases hv),cx,fun k hk=>(by cases hk),by show 1≤2000000;decide⟩
 have g:=g.trans (g8.trans g11);refine Ze (Ypa J ?_);exact ⟨rfl,k11.pc,g⟩
section
variable {F n:Nd} {S S':CSt}
theorem dcl_2(h:n.kind=2):dclR F n S=(plainT n,strA F n S n.kids.length):=by unfold dclR;rw [h];rfl
theorem dcl_6(h:n.kind=6):dclR F n S=(plainT n,pointerS F (Za n 0) S):=by unfold dclR;rw [h];rfl
theorem dcl_4(h:n.kind=4):dclR F n S=funR F n S:=by unfold dclR;rw [h];rfl
theorem Xwd(k:Nd){T:CSt}(h:Er S T):Er S (pointerS F k T):=by rw [Qh];exact h.failu _ _ _
theorem Yce(k:Nd){T:CSt}(h:Er S T):Er S (localS F k T):=(Xwd k h).failu _ _ _
theorem Xxd(F n:Nd)(S:CSt)(i:Nat):∀ k,Er (strA F n S i) (strA F n S (i+k))
 | 0=>Er.refl _
 | k+1=>Xwd _ ((Xxd F n S i k).failu _ _ _)
theorem Whe{i:Nat}(hi:i<n.kids.length):Er (strA F n S (i+1)) (strA F n S n.kids.length):=by
 have k:=Xxd F n S (i+1) (n.kids.length-(i+1));rwa [show i+1+(n.kids.length-(i+1))=n.kids.length by omega] at k
theorem Yjg{i:Nat}(hi:i<n.kids.length)(h:strA F n S i=S):Er (failU (!dupAt n i) (Za n i).pos 6 S) (strA F n S n.kids.length):=by
 have k:=Whe (F:=F) (S:=S) hi;have e:strA F n S (i+1)=pointerS F (Za (Za n i) 0) (failU (!dupAt n i) (Za n i).pos 6 (strA F n S i)):=rfl;rw [e,h] at k;exact (Xwd _ (Er.refl _)).trans k
theorem Ykg{i:Nat}(hi:i<n.kids.length)(h:strA F n S i=S)(hd:dupAt n i=false):Er (pointerS F (Za (Za n i) 0) S) (strA F n S n.kids.length):=by
 have k:=Whe (F:=F) (S:=S) hi;have e:strA F n S (i+1)=pointerS F (Za (Za n i) 0) (failU (!dupAt n i) (Za n i).pos 6 (strA F n S i)):=rfl;rw [e,h,hd] at k;exact k
theorem Vkf{i:Nat}(h:strA F n S i=S)(hd:dupAt n i=false)(hp:(!decide ((Za (Za n i) 0).kind=8) || !decide ((findD F 2 (Za (Za n i) 0).text).2<0))=true):strA F n S (i+1)=S:=by
 show pointerS F (Za (Za n i) 0) (failU (!dupAt n i) (Za n i).pos 6 (strA F n S i))=S;rw [h,hd,Qh,hp];rfl
/-! functions -/
theorem Vbb{k:Nd}(he:S.ee=0)(h:localS F k S=S):(!decide (k.kind=8) || !decide ((findD F 2 k.text).2<0))=true∧Vl (ofF k).1=true:=by
 unfold localS at h;rw [Qh] at h;cases h1:(!decide (k.kind=8) || !decide ((findD F 2 k.text).2<0));rw [h1,Wja he] at h;cases h2:Vl (ofF k).1;rw [h2] at h;have h:=congrArg CSt.ee h;rw [he] at h;unfold failU failS at h;exact absurd h Os;rw [h2] at h;have h:=congrArg CSt.ee h;rw [he] at h;exact absurd h (by show ¬ (5:Int)=0;decide);rw [h1] at h;cases h2:Vl (ofF k).1;rw [h2] at h;have h:failU false k.pos 7 S=S:=h;rw [Wja he] at h;have h:=congrArg CSt.ee h;rw [he] at h;exact absurd h (by show ¬ (7:Int)=0;decide);exact ⟨rfl,rfl⟩
theorem Wie{k:Nd}(he:S.ee=0)(h:localS F k S=S)(T:CSt):localS F k T=T:=by
 obtain ⟨h1,h2⟩:=Vbb he h;unfold localS;rw [Qh,h1,h2];rfl
theorem Vlf{k:Nd}(he:S.ee=0)(he':S'.ee=0):Er (localS F k S) (localS F k S'):=by
 unfold localS;rw [Qh,Qh];intro hn;cases h1:(!decide (k.kind=8) || !decide ((findD F 2 k.text).2<0)) <;> cases h2:Vl (ofF k).1 <;> rw [h1,h2] at hn
 rw [Wja he,Wja he'];exact ⟨rfl,rfl⟩;rw [Wja he,Wja he'];exact ⟨rfl,rfl⟩;have e:∀ T:CSt,failU true k.pos 5 T=T:=fun _=>rfl;rw [e,e,Wja he,Wja he'];exact ⟨rfl,rfl⟩;exact absurd he hn
theorem Xyd(p:Nd)(i:Nat):∀ k,Er (parA F p S i).2 (parA F p S (i+k)).2
 | 0=>Er.refl _
 | k+1=>Yce _ ((Xyd p i k).decl _ _ _)
theorem Vmf:Er (parA F (Za n 0) (funS0 S) (Za n 0).kids.length).2 (funR F n S).2:=by
 have h1:Er (parA F (Za n 0) (funS0 S) (Za n 0).kids.length).2 (funS1 F n S):=Er.refl _
 have h2:Er (funS1 F n S) (funS2 F n S):=by
  unfold funS2;cases decide ((Za n 1).kind=9);exact Yce (F:=F) (Za n 1) (Er.refl (funS1 F n S));exact Er.refl _
 exact ((h1.trans h2).trans ((Uh F (Za n 2)).sts _).e).failu _ _ _
theorem Wje{i:Nat}(hi:i<(Za n 0).kids.length):Er (parA F (Za n 0) (funS0 S) (i+1)).2 (funR F n S).2:=by
 have k:=Xyd (F:=F) (S:=funS0 S) (Za n 0) (i+1) ((Za n 0).kids.length-(i+1));rw [show i+1+((Za n 0).kids.length-(i+1))=(Za n 0).kids.length by omega] at k;exact k.trans Vmf
theorem Wke{i:Nat}(hi:i<(Za n 0).kids.length):Er (declS (Za (Za n 0) i).text (ofF (Za (Za (Za n 0) i) 0)).1 (Za (Za n 0) i).pos (parA F (Za n 0) (funS0 S) i).2) (funR F n S).2 :=
 (Yce _ (Er.refl _)).trans (Wje hi)
theorem Ylg{i:Nat}(hi:i<(Za n 0).kids.length)(he:(parA F (Za n 0) (funS0 S) i).2.ee=0)(hd:dupV (parA F (Za n 0) (funS0 S) i).2 (Za (Za n 0) i).text=false):Er (localS F (Za (Za (Za n 0) i) 0) (parA F (Za n 0) (funS0 S) i).2) (funR F n S).2:=by
 refine (Vlf he (S':=declS (Za (Za n 0) i).text (ofF (Za (Za (Za n 0) i) 0)).1 (Za (Za n 0) i).pos (parA F (Za n 0) (funS0 S) i).2) ?_).trans (Wje hi);rw [Xsd hd];exact he
theorem Vnf{i:Nat}(he:(parA F (Za n 0) (funS0 S) i).2.ee=0)(hl:localS F (Za (Za (Za n 0) i) 0) (parA F (Za n 0) (funS0 S) i).2=(parA F (Za n 0) (funS0 S) i).2) :
 parA F (Za n 0) (funS0 S) (i+1)=((parA F (Za n 0) (funS0 S) i).1++[.mk (Za (Za n 0) i).kind (Za (Za n 0) i).text (declN (parA F (Za n 0) (funS0 S) i).2) (Za (Za n 0) i).pos ((Za (Za n 0) i).kids.map plainT) ty0 1 0],declS (Za (Za n 0) i).text (ofF (Za (Za (Za n 0) i) 0)).1 (Za (Za n 0) i).pos (parA F (Za n 0) (funS0 S) i).2):=by
 show (_,localS F (Za (Za (Za n 0) i) 0) _)=_;rw [Wie he hl]
theorem Ujg(h9:(Za n 1).kind≠9)(he:(parA F (Za n 0) (funS0 S) (Za n 0).kids.length).2.ee=0):Er (localS F (Za n 1) (parA F (Za n 0) (funS0 S) (Za n 0).kids.length).2) (funR F n S).2:=by
 have h1:Er (localS F (Za n 1) (parA F (Za n 0) (funS0 S) (Za n 0).kids.length).2) (localS F (Za n 1) (funS1 F n S)):=Vlf he he
 have h2:Er (localS F (Za n 1) (funS1 F n S)) (funS2 F n S):=by
  unfold funS2;rw [Jxg h9];exact Er.refl _
 exact ((h1.trans h2).trans ((Uh F (Za n 2)).sts _).e).failu _ _ _
theorem Vcb{k:Nd}(h:k.kind=9):(ofF k).1=ty0:=by
 unfold ofF;cases !Jla k;rw [h];rfl;rfl
theorem Wle(h:(Za n 1).kind≠9→(parA F (Za n 0) (funS0 S) (Za n 0).kids.length).2.ee=0∧localS F (Za n 1) (parA F (Za n 0) (funS0 S) (Za n 0).kids.length).2=(parA F (Za n 0) (funS0 S) (Za n 0).kids.length).2) :
 funS2 F n S = { (parA F (Za n 0) (funS0 S) (Za n 0).kids.length).2 with result:=(ofF (Za n 1)).1 }:=by
 unfold funS2;cases h9:decide ((Za n 1).kind=9);obtain ⟨h1,h2⟩:=h (Zdh h9);rw [Zeh,Wie h1 h2];rfl;rw [Zfh,Vcb (Zch h9)];rfl
theorem Xzd(h:(Za n 1).kind≠9→Vl (ofF (Za n 1)).1=true):decide ((Za n 1).kind=9)=tyEqB (ofF (Za n 1)).1 ty0:=by
 cases h9:decide ((Za n 1).kind=9);have h1:=h (Zdh h9);cases h2:tyEqB (ofF (Za n 1)).1 ty0;rfl;have e:(ofF (Za n 1)).1=ty0:=(Yrc _ _).1 h2;rw [e] at h1;exact absurd h1 Od;rw [Vcb (Zch h9)];rfl
theorem Qdc(F p:Nd)(S:CSt):∀ i,CanV (parA F p (funS0 S) i).2
 | 0=>fun v hv=>by cases hv
 | i+1=>by
  have h1:=Qdc F p S i;have h2:CanV (declS (Za p i).text (ofF (Za (Za p i) 0)).1 (Za p i).pos (parA F p (funS0 S) i).2):=Zfc _ _ h1 (Yxc _);intro v hv;exact h2 v (by have:=(Jo F (Za (Za p i) 0) (declS (Za p i).text (ofF (Za (Za p i) 0)).1 (Za p i).pos (parA F p (funS0 S) i).2)).vars;rw [← this];exact hv)
theorem Xkc(F p:Nd)(S:CSt)(i:Nat):(parA F p (funS0 S) i).2.level=0∧(parA F p (funS0 S) i).2.scope=0:=⟨(Zkc F p (funS0 S) i).level,(Zkc F p (funS0 S) i).scope⟩
end
theorem PB.keepM{F:Nd}{n0 b:Nat}{TB X:List Nat}{fv:Ga}{ms mg mn mf:Nat}{pv:Nat→Ga}{sv cv rv:Ga}{w w':Aa}(h:PB F n0 b TB X fv ms mg mn mf pv sv cv rv w){m:Nat}{es:List (List UInt8×Ga)}(hM:MapS w m es)(hg:w.grownBy w' (some m))(hn:m≠ms∧m≠mg∧m≠mn∧m≠mf)(hm:n0≤m):PB F n0 b TB X fv ms mg mn mf pv sv cv rv w':=by
 have hL:Below n0 w w':=⟨hg.os,hg.tape,hg.output,hg.size,fun k hk=>hg.block k (Aea hk h.L.hn) fun e=>by injection e with e;omega⟩;exact ⟨h.B.keep hg (Xu (hM.nblk h.B).symm),h.hb,h.kF.keep hg (fun k hk _ e=>by injection e with e;omega),h.hF,⟨h.T.hs.keep hg (Xu hn.1.symm),h.T.hg.keep hg (Xu hn.2.1.symm),h.T.hn.keep hg (Xu hn.2.2.1.symm),h.T.hf.keep hg (Xu hn.2.2.2.symm),fun s hs=>(h.T.hp s hs).keepM hM hg⟩,h.L.below hL,h.tx,fun j hj=>Aea (h.xl j hj) hg.size,h.bx⟩
theorem eqT0(y:Ty):(decide (y.kind=0)&&(decide (({ data:=y.name.toArray }:ByteArray).data.toList=({ data:=#[] }:ByteArray).data.toList)&&true))=tyEqB y ty0:=by
 first|rfl|(unfold tyEqB;rw [Bool.eq_iff_iff];simp only [Bool.and_true,Bool.and_eq_true,Zah];rfl)
theorem Wcg{F t:Nd}{S:CSt}(h:(Za t 1).kind=9):Er (failU (true || endsL (Za t 2).kids) t.pos 7 ((ckT F (Za t 2)).sts (funS2 F t S)).2) (funR F t S).2:=by
 have e:(funR F t S).2=failU (decide ((Za t 1).kind=9) || endsL (Za t 2).kids) t.pos 7 ((ckT F (Za t 2)).sts (funS2 F t S)).2:=rfl;rw [e,Jyg h];exact Er.refl _
theorem Vof{F t:Nd}(HF:FW F)(hk:t.kind=2∨t.kind=6∨t.kind=4)(hp:permF t=true)(hct:count t≤1000000){n0 b:Nat}{TB X:List Nat}{S:CSt}{w:Aa}{v:Ga}(h:PX F n0 b TB X w)(he:S.ee=0)(hkw:Kd w (fun k=>k<n0) t.kids v) :
 RetP PP 31 #[.pointer (some ⟨b,0,none⟩),ndV t v] w (fun r w'=>(dclR F t S).2.ee=0∧RetN (dclR F t S).1 w.heap.size r w'∧PX F n0 b TB X w'∧GT (mutC X) n0 w w') (BadD n0 X (dclR F t S).2 w):=by
 obtain ⟨p,c,rfl,_⟩:=id hkw;have hk0:=hkw;have hlt:=h.lt;have htb:=h.tb;have hbx:=h.nx;have htb2:∀ j∈TB,j<w.heap.size:=fun j hj=>htb.2 j (htb.1 j hj);have hkl:=Wu t;obtain ⟨fv,ms,mg,mn,mf,pv,sv,cv,rv,h⟩:=h;have hms:=h.T.hs.lt;have hmg:=h.T.hg.lt;have hmn:=h.T.hn.lt;have hmf:=h.T.hf.lt;have hnn:=h.L.hn;have g:=GT.refl (mutC X) n0 w;refine Vd (m:=181) Tryz.func31 J J [(0,True,_),(1,True,_)] (Zb J (Zb J (Zq _))) ?_;refine BM fun b3 _ ga _ g E=>?_;have hp3:=h;have nlt3:=ga.blk.lt;have nat3:=ga.at_;have h:=Ui h;have hk0:=Ui hk0;refine AN fun b4 _ ga _ g E=>?_;have hp4:=h;have nlt4:=ga.blk.lt;have nat4:=ga.at_;have h:=Ui h;have hk0:=Ui hk0;refine IF (fun h1=>?_) fun h1=>?_;replace h1:t.kind=2:=Zch h1;have hf:=Yna (.inl h1) hp;have ed:=dcl_2 (F:=F) (S:=S) h1;refine AU ?_;refine Qaa J ?_;intro m2 w22 em2 g22 z22 hM;have hl2:w.heap.size≤m2:=by have:=g.size;omega
 have g:=g.trans (GT.of_g g22);replace E:=E.grow g22;have h:=h.grow g22;have hk0:=hk0.grow g22;refine AU ?_;have hnd1:=E.1;refine Qa (fun (i:Nat) u1=>(i≤t.kids.length∧strA F t S i=S∧PB F n0 b TB X fv ms mg mn mf pv sv cv rv u1∧MapS u1 m2 (allK (t.kids.take i)))∧GT (mutC X) n0 w u1) _ [(0,True,_),(3,True,_),(4,True,_),(5,True,_),(24,True,_),(25,True,_)] (fun (i:Nat)=>[(26,True,.int .i64 i)]) (fun (i:Nat)=>t.kids.length-i) (0) ⟨⟨Ama _,rfl,h,hM⟩,g⟩ (Zx (blkE E.g1) (Zx (blkE E.g0) (Wa _))) (Zb J (Zb J (Zb J (Zb J (Zb J (Zb J (Zb J (Zq _)))))))) ?_;clear E;rintro i u1 ⟨hI1,gl1⟩ ⟨B3,B4,_⟩;replace B3:Blk _ _ _ _:=B3;replace B4:Blk _ _ _ _:=B4;have g:=gl1;obtain ⟨hi,hst,h,hM⟩:=hI1;have hk0:=hkw.gt gl1 (fun k h=>h);have E:=Vwa (L:=[(b4,_,_),(b3,_,_)]) hnd1 ⟨B4,B3,trivial⟩ rfl;refine IF (fun h2=>?_) fun h2=>?_;replace h2:i<t.kids.length:=by simp only [Zah] at h2;omega
 obtain ⟨e0,p1,c1,hcell,hkid⟩:=Yr hk0 (i:=i) h2;have hf3:=hf _ (Jpa h2);have hfl:=(pf3 hf3.1 hf3.2).1;refine AN fun _ _ ga _ g E=>?_;have hp7:=h;have nlt7:=ga.blk.lt;have nat7:=ga.at_;have h:=Ui h;have hM:=Ui hM;have hkid:=Ui hkid;refine AS fun _ ga Ca g E=>?_;first|have h:=h.keep ga Ca O (.inl rfl)|have h:=h.keep ga Ca O (.inr ⟨by simp,fun hm=>by have:=htb2 _ hm;omega⟩)
 have hkid:=Ud hkid;have hM:=hM.keep ga (Xu (hM.nblk Ca));refine Ze (kq (Zk ?_));refine Vkb [3,3,0,0,3,3,0,1] ?_;refine AU ?_;refine Qb J (Vjf (F:=t) hM (Zc J) (Zc J)) ?_;refine AU ?_;refine Y3 J Yd J J J (Wy _ _ _ _) ((fun ch w' hz=>Zjd he Od (by rw [ed];exact Yjg h2 hst) hz g)) ?_;rintro _ _ ⟨rfl,hq37,ga⟩;refine RC fun g E=>?_;have h:=Uk h;have hM:=Uk hM;have hkid:=Uk hkid;have hdi:dupAt t i=false:=by simpa using hq37
 refine AU ?_;refine Wga J Vsa Ufd hM (Zhd hdi) (Zc J) (Zc J) Xv ?_;intro wm hM2 hgm hzm;replace E:=E.keepM hM hgm;have g:=Yb g hgm O;have hkid:=hkid.keep hgm (fun k hk _ e=>by injection e with e;omega);have h:=h.keepM hM hgm ⟨O,O,O,O⟩ O;replace hM:=hM2;refine AU ?_;obtain ⟨e1,p2,c2,hc2,_⟩:=Yr hkid (i:=0) O;refine AU ?_;refine Y2 J Qy J J (Zoc (Za (Za t i) 0) _ _ h.px) ((fun ch w' hz=>Zjd he Od (by rw [ed,← Qh];exact Ykg h2 hst hdi) hz g)) ?_;rintro _ _ ⟨rfl,hq46,ga⟩;refine RC fun g E=>?_;have h:=Uk h;have hM:=Uk hM;refine AU ?_;refine SK [26,0,3,4,5,24,25] ?_;refine Ze (fun a ha=>?_);exact ⟨i+1,ha,⟨⟨h2,Vkf hst hdi hq46,h,by rw [Vvb h2];exact hM⟩,g⟩,(Zx (blkE E.g2) (Zx (blkE E.g1) (Wa _))),O⟩;replace h2:i=t.kids.length:=by simp only [Zbh] at h2;omega
 subst h2;rw [hst] at ed;refine AU ?_;refine CL (Js t _ _ _ [b3,b4] hk0 hct (E.ltm Ob) g.size) ?_;rintro _ _ ⟨⟨p49,c49,rfl,q49,k49⟩,ga⟩;refine RC fun g E=>?_;have h:=Uk h;refine AS fun _ ga Ca g E=>?_;first|have h:=h.keep ga Ca O (.inl rfl)|have h:=h.keep ga Ca O (.inr ⟨by simp,fun hm=>by have:=htb2 _ hm;omega⟩)
 have k49:=k49.keep ga Oi;refine RTN ?_;rw [ed];exact ⟨he,Xh (t:=plainT t) rfl (k49.kdN q49),h.px,g⟩;replace h1:t.kind≠2:=Zdh h1;refine IF (fun h3=>?_) fun h3=>?_;replace h3:t.kind=6:=Zch h3;obtain ⟨hl6,ht6,_⟩:=pf6 h3 hp;have ed:=dcl_6 (F:=F) (S:=S) h3;obtain ⟨e0,p1,c1,hcell,hkid⟩:=Yr hk0 (i:=0) O;refine AU ?_;refine Y2 J Qy J J (Zoc (Za t 0) _ _ h.px) ((fun ch w' hz=>Zjd he Od (by rw [ed,Qh];exact Er.refl _) hz g)) ?_;rintro _ _ ⟨rfl,hq57,ga⟩;refine RC fun g E=>?_;have h:=Uk h;have hk0:=Uk hk0;refine AU ?_;refine CL (Js t _ _ _ [b3,b4] hk0 hct (E.ltm Ob) g.size) ?_;rintro _ _ ⟨⟨p59,c59,rfl,q59,k59⟩,ga⟩;refine RC fun g E=>?_;have h:=Uk h;refine AS fun _ ga Ca g E=>?_;first|have h:=h.keep ga Ca O (.inl rfl)|have h:=h.keep ga Ca O (.inr ⟨by simp,fun hm=>by have:=htb2 _ hm;omega⟩)
 have k59:=k59.keep ga Oi;refine RTN ?_;rw [ed,Qh,hq57];exact ⟨he,Xh (t:=plainT t) rfl (k59.kdN q59),h.px,g⟩;replace h3:t.kind≠6:=Zdh h3;have h4k:t.kind=4:=(hk.resolve_left h1).resolve_left h3;have ed:=dcl_4 (F:=F) (S:=S) h4k;obtain ⟨hl3,⟨hk5,hp5⟩,ht1,hk10,hp10⟩:=pf4 h4k hp;have hc3:=cn3 hl3;have hb2:blockB (Za t 2)=true:=by unfold blockB;rw [hk10,hp10];rfl
 have hS2:CxM 1000001 F 57 (Za t 2) (ckT F (Za t 2)).sts:=(Wwf HF _ (Za t 2) (Afa _)).sts hb2;have hlq:=Wu (Za t 0);have hl1:=Wu (Za t 1);obtain ⟨e0,p0,c0,hcqw,hkqw⟩:=Yr hkw (i:=0) O;obtain ⟨_,p1,c1,hc1w,hk1w⟩:=Yr hkw (i:=1) O;obtain ⟨_,p2,c2,hc2w,hk2w⟩:=Yr hkw (i:=2) O;have hDp:pb p<n0:=Vq hkw (show 0<t.kids.length by omega);refine AU ?_;refine CL (Jr t _ _ _) ?_;rintro _ _ ⟨rfl,ga⟩;refine RC fun g E=>?_;have h:=Uk h;refine AN fun b8 _ ga _ g E=>?_;have hp8:=h;have nlt8:=ga.blk.lt;have nat8:=ga.at_;have h:=Ui h;refine AS fun _ ga Ca g E=>?_;first|have h:=h.keep ga Ca O (.inl rfl)|have h:=h.keep ga Ca O (.inr ⟨by simp,fun hm=>by have:=htb2 _ hm;omega⟩)
 refine Ze (kq (Zk (Zn (Xa Zg J (Xn Zi J (E.g2.at_ J) (Yja Zd J J O e0 (Va Zf J J (hcqw.gt g hDp) (CL (Jr (Za t 0) _ _ _) ?_))))))));rintro _ _ ⟨rfl,ga⟩;refine RC fun g E=>?_;have h:=Uk h;refine AN fun b9 _ ga _ g E=>?_;have hp9:=h;have nlt9:=ga.blk.lt;have nat9:=ga.at_;have h:=Ui h;refine AS fun _ ga Ca g E=>?_;first|have h:=h.keep ga Ca O (.inl rfl)|have h:=h.keep ga Ca O (.inr ⟨by simp,fun hm=>by have:=htb2 _ hm;omega⟩)
 refine AU ?_;refine Ya _ J Zoa Yec (pqc J pq0) J J ?_;intro b70 w70 N70;have l70:=Wc N70 g.size;have hp70:=h;have nlt70:=N70.blk.lt;have nat70:=N70.at_;have B70:=N70.blk;have g:=gtg g N70.g;replace E:=E.grow N70.g;have h:=h.grow (N70.g);refine AU ?_;refine Xi J Vmb (Zc J) (Zc J) J h.B J J ?_;intro w72 hg72 hz72 B72;replace E:=E.keepT hg72 h.B rfl;have B70:=N70.blk;have B70:=B70.keep hg72 (Xu (Zta B70 h.B rfl));have g72:GT (mutC X) n0 _ w72:=Uda h.B rfl h.hb h.bx hg72;have g:=gtw g g72;have h:=h.gt g72 B72;refine AU ?_;refine Xi J Uz (Zc J) Xv J h.B J J ?_;intro w74 hg74 hz74 B74;replace E:=E.keepT hg74 h.B rfl;have B70:=B70.keep hg74 (Xu (Zta B70 h.B rfl));have g74:GT (mutC X) n0 _ w74:=Uda h.B rfl h.hb h.bx hg74;have g:=gtw g g74;have h:=h.gt g74 B74;refine AU ?_;refine Xi J Vf (Zc J) Xv J h.B J J ?_;intro w76 hg76 hz76 B76;replace E:=E.keepT hg76 h.B rfl;have B70:=B70.keep hg76 (Xu (Zta B70 h.B rfl));have g76:GT (mutC X) n0 _ w76:=Uda h.B rfl h.hb h.bx hg76;have g:=gtw g g76;have h:=h.gt g76 B76;refine Ze (kq (Zk (Zn (Zu J (CL (Qye (S:=S) h (Yvb B70 O J Od) (fun k hk hm=>by have e:b70=k:=(by injection hk);have:=hp70.xl k hm;omega)) ?_)))));rintro v78 w78 ⟨rfl,h,g78⟩;refine ⟨nw1,?_⟩;have g:=gtw g g78;replace E:=E.gtx g78;refine Ze (kq (Zk (Zk (Zn (Xa Zg J (Xn Zi J (E.g3.at_ J) (Yja Zd J J O e0 (Xa Zg J (Xn Zi J ((hcqw.gt g hDp).one (i:=4) J) (Xva Zd J (Zu J (Ze (kq (Yw (?_)))))))))))))));have hnd2:=E.1
 refine Qa (fun (i:Nat) u2=>(i≤(Za t 0).kids.length∧(parA F (Za t 0) (funS0 S) i).2.ee=0∧PC F n0 b TB X none (parA F (Za t 0) (funS0 S) i).2 u2∧∃ s,Blk u2 b9 26 (ndCells (clnT (Za t 0)) s)∧OwnN [b3,b4,b8,b9] w.heap.size u2 (parA F (Za t 0) (funS0 S) i).1 s)∧GT (mutC X) n0 w u2) _ [(0,True,_),(3,True,_),(4,True,_),(8,True,_),(9,True,_),(60,True,_),(61,True,_),(62,True,_),(63,True,_),(64,True,_),(65,True,_),(66,True,_),(67,True,_),(68,True,_),(69,True,_),(70,True,_),(71,True,_),(72,True,_),(73,True,_),(74,True,_),(75,True,_),(76,True,_),(77,True,_),(79,True,_),(80,True,_),(81,True,_),(82,True,_),(83,True,_),(84,True,_)] (fun (i:Nat)=>[(85,True,.int .i64 i)]) (fun (i:Nat)=>(Za t 0).kids.length-i) (0) ⟨⟨Ama _,he,h,_,E.g0,Yxa _ _ _⟩,g⟩ (Zx (blkE E.g3) (Zx (blkE E.g2) (Zx (blkE E.g1) (Wa _)))) (Zb J (Zb J (Zb J (Zb J (Zb J (Zb J (Zb J (Zb J (Zb J (Zb J (Zb J (Zb J (Zb J (Zb J (Zb J (Zb J (Zb J (Zb J (Zb J (Zb J (Zb J (Zb J (Zb J (Zb J (Zb J (Zb J (Zb J (Zb J (Zb J (Zb J (Zq _))))))))))))))))))))))))))))))) ?_;clear E;rintro i u2 ⟨hI2,gl2⟩ ⟨B3,B4,B8,_⟩;replace B3:Blk _ _ _ _:=B3;replace B4:Blk _ _ _ _:=B4;replace B8:Blk _ _ _ _:=B8;have g:=gl2;obtain ⟨hi,hei,h,s,B9,hO⟩:=hI2;obtain ⟨sa,sc,rfl⟩:=hO.slice;have hlen:=Upd F (Za t 0) (funS0 S) i;have E:=Vwa (L:=[(b9,_,_),(b8,_,_),(b4,_,_),(b3,_,_)]) hnd2 ⟨B9,B8,B4,B3,trivial⟩ rfl;refine Zk (Zn (Ykb J J (Ze (kq (Zk (Um J (fun h4=>?_) (fun h4=>?_)))))));replace h4:i<(Za t 0).kids.length:=by simp only [Zah] at h4;omega
 obtain ⟨ef,pf,cf,hcfw,hkfw⟩:=Yr hkqw (i:=i) h4;have hDq:pb p0<n0:=Vq hkqw h4;have hf3:=Yna (.inr hk5) hp5 _ (Jpa h4);have hfl:=(pf3 hf3.1 hf3.2).1;have hcF:=Wi h4;have hcG:=Wi (t:=(Za (Za t 0) i)) (i:=0) O;have hkG:=Wu (Za (Za (Za t 0) i) 0);have hbd:=Vcf F (Za t 0) S i;have hps:=Xkc F (Za t 0) S i;have hkf:=hkfw.gt g (fun k h=>h);have hOlt:=hO.lt;refine Yu (kq (Zk (Yw (Zk (Zn (Yja Zd J J O ef (Va Zf J J (hcfw.gt g hDq) (AN fun b11 _ ga _ g E=>?_))))))));have hp11:=h;have nlt11:=ga.blk.lt;have nat11:=ga.at_;have hO:=Uj hO;have h:=Ui h;have hkf:=Ui hkf;refine AS fun _ ga Ca g E=>?_;first|have h:=h.keep ga Ca O (.inl rfl)|have h:=h.keep ga Ca O (.inr ⟨by simp,fun hm=>by have:=htb2 _ hm;omega⟩)
 have hkf:=Ud hkf;have hO:=Ua hO;refine Ze (kq (Zk (Zk (Zn (?_)))));obtain ⟨fv2,ms2,mg2,mn2,mf2,pv2,sv2,cv2,rv2,vs,scl,h⟩:=h;obtain ⟨l,hl⟩:∃ l,scl[(parA F (Za t 0) (funS0 S) i).2.scope]? = some l:=⟨_,Bea (by have:=h.sl;omega)⟩;obtain ⟨q,hq⟩:∃ q,vs[(parA F (Za t 0) (funS0 S) i).2.scope]? = some q:=⟨_,Bea (by have:=h.sl;have:=h.sr.len;omega)⟩;obtain ⟨pa,pc,rfl,_,hat⟩:=Xqd h.so;obtain ⟨pi,ci,rfl,hci,_⟩:=Usc (h.sr.row _ _ _ hq hl);have hvl:0<vs.length:=by have:=h.sl;have:=h.sr.len;omega
 have hll:l.length≤1000000:=by
  have hm:l∈scl:=Bfa hl;have:=(List.sublist_flatten_of_mem hm).length_le;rw [h.fl] at this;have:=hbd.vl;omega
 refine Zu J (Vx J (Xa Yv J (Xn Yl J (h.B.at_ J) (Zz J (fun _=>Xr Yp (Zc J) Xv (fun _=>O) (fun _=>(hat _ _ hq).1)) (Xn Vc J (by have q:=(hat _ _ hq).2;rw [hps.2] at q;exact q) (Xva Wq J (Zu J (Ze (kq (Yw (?_)))))))))));have hnd3:=E.1
 refine Qa (fun (j:Nat) u3=>(j≤l.length∧((l.take j).any fun v=>decide (v.name=(Za (Za t 0) i).text))=false∧PK F n0 b TB X none (parA F (Za t 0) (funS0 S) i).2 fv2 ms2 mg2 mn2 mf2 pv2 (.slice pa vs.length pc) cv2 rv2 vs scl u3∧OwnN [b3,b4,b8,b9] w.heap.size u3 (parA F (Za t 0) (funS0 S) i).1 (.slice sa (parA F (Za t 0) (funS0 S) i).1.length sc))∧GT (mutC X) n0 w u3) _ [(0,True,_),(3,True,_),(4,True,_),(8,True,_),(9,True,_),(11,True,_),(60,True,_),(61,True,_),(62,True,_),(63,True,_),(64,True,_),(65,True,_),(66,True,_),(67,True,_),(68,True,_),(69,True,_),(70,True,_),(71,True,_),(72,True,_),(73,True,_),(74,True,_),(75,True,_),(76,True,_),(77,True,_),(79,True,_),(80,True,_),(81,True,_),(82,True,_),(83,True,_),(84,True,_),(85,True,_),(86,True,_),(87,True,_),(88,True,_),(89,True,_),(90,True,_),(91,True,_),(92,True,_),(93,True,_),(94,True,_),(95,True,_)] (fun (j:Nat)=>[(96,True,.int .i64 j)]) (fun (j:Nat)=>l.length-j) (0) ⟨⟨Ama _,rfl,h,hO.sub Oj⟩,g⟩ (Zx (blkE E.g4) (Zx (blkE E.g3) (Zx (blkE E.g2) (Zx (blkE E.g1) (Zx (blkE E.g0) (Wa _)))))) (Zb J (Zb J (Zb J (Zb J (Zb J (Zb J (Zb J (Zb J (Zb J (Zb J (Zb J (Zb J (Zb J (Zb J (Zb J (Zb J (Zb J (Zb J (Zb J (Zb J (Zb J (Zb J (Zb J (Zb J (Zb J (Zb J (Zb J (Zb J (Zb J (Zb J (Zb J (Zb J (Zb J (Zb J (Zb J (Zb J (Zb J (Zb J (Zb J (Zb J (Zb J (Zb J (Zq _))))))))))))))))))))))))))))))))))))))))))) ?_;clear E;rintro j u3 ⟨hI3,gl3⟩ ⟨B3,B4,B8,B9,B11,_⟩;replace B3:Blk _ _ _ _:=B3;replace B4:Blk _ _ _ _:=B4;replace B8:Blk _ _ _ _:=B8;replace B9:Blk _ _ _ _:=B9;replace B11:Blk _ _ _ _:=B11;have g:=gl3;clear h hat hO
 obtain ⟨hj,hno,h,hO⟩:=hI3;obtain ⟨pi',ci',e',_,hrow⟩:=Usc (h.sr.row _ _ _ hq hl);injection e' with e1 _ e2;subst e1 e2;have hkf:=hkfw.gt gl3 (fun k h=>h);have E:=Vwa (L:=[(b11,_,_),(b9,_,_),(b8,_,_),(b4,_,_),(b3,_,_)]) hnd3 ⟨B11,B9,B8,B4,B3,trivial⟩ rfl;refine IF (fun h5=>?_) fun h5=>?_;replace h5:j<l.length:=by simp only [Zah] at h5;omega
 obtain ⟨hpe,hcv⟩:=hrow j h5;have hst:((l.take (j+1)).any fun v=>decide (v.name=(Za (Za t 0) i).text))=decide (l[j].name=(Za (Za t 0) i).text):=by rw [Bba h5,List.any_append,hno,Bool.false_or];simp
 refine AN fun _ _ N13 _ g E=>?_;have hp13:=h;have nlt13:=N13.blk.lt;have nat13:=N13.at_;have hO:=hO.new N13;have h:=h.grow (N13.g);have h:=hp13.addX N13;refine AS fun _ ga Ca g E=>?_;first|have h:=h.keep ga Ca O (.inl rfl)|have h:=h.keep ga Ca O (.inr ⟨by simp,fun hm=>by have:=htb2 _ hm;omega⟩)
 have hO:=Ua hO;refine AU ?_;refine Y3 J Yd J J J (Wy _ _ _ _) ((fun ch w' hz=>Zjd hei Od ((h.erd hl h5 (fun e=>by simpa using e) hz.1).trans (by rw [ed];exact Wke h4)) hz g)) ?_;rintro _ _ ⟨rfl,hq107,ga⟩;refine RC fun g E=>?_;have h:=Uk h;have hO:=Uk hO;refine AU ?_;refine SK [96,0,3,4,8,9,11,60,61,62,63,64,65,66,67,68,69,70,71,72,73,74,75,76,77,79,80,81,82,83,84,85,86,87,88,89,90,91,92,93,94,95] ?_;refine Ze (fun a ha=>?_);exact ⟨j+1,ha,⟨⟨h5,by rw [hst];simpa using hq107,h.sub htb.1 (fun j hj=>Ana _ hj),hO.sub Oj⟩,g⟩,(Zx (blkE E.g5) (Zx (blkE E.g4) (Zx (blkE E.g3) (Zx (blkE E.g2) (Zx (blkE E.g1) (Wa _)))))),O⟩;replace h5:j=l.length:=by simp only [Zbh] at h5;omega
 subst h5;rw [List.take_length] at hno;have hdp:dupV (parA F (Za t 0) (funS0 S) i).2 (Za (Za t 0) i).text=false:=by rw [h.dup hl];exact hno
 replace h:=h.pc;have hOlt:=hO.lt;refine AU ?_;obtain ⟨eg,pg,cg,hcg,hkg⟩:=Yr hkf (i:=0) O;refine AU ?_;refine Y2 J Jw J J (Xdc (Za (Za (Za t 0) i) 0) _ _ h hei O) ((fun ch w' hz=>hz.d (by rw [ed];exact Ylg h4 hei hdp) g)) ?_;rintro _ _ ⟨rfl,hloc,ga⟩;refine RC fun g E=>?_;have h:=Uk h;have hkf:=Uk hkf;have hO:=Uk hO;refine AN fun b14 _ N14 _ g E=>?_;have hp14:=h;have nlt14:=N14.blk.lt;have nat14:=N14.at_;have hO:=hO.new N14;have h:=h.grow (N14.g);have hkf:=hkf.grow (N14.g);have h:=hp14.addX N14;refine AS fun _ ga Ca g E=>?_;first|have h:=h.keep ga Ca O (.inl rfl)|have h:=h.keep ga Ca O (.inr ⟨by simp,fun hm=>by have:=htb2 _ hm;omega⟩)
 have hkf:=Ud hkf;have hO:=Ua hO;refine AU ?_;refine CL (Jr (Za (Za t 0) i) _ _ _) ?_;rintro _ _ ⟨rfl,ga⟩;refine RC fun g E=>?_;have h:=Uk h;have hkf:=Uk hkf;have hO:=Uk hO;refine AN fun b15 _ ga _ g E=>?_;have hp15:=h;have nlt15:=ga.blk.lt;have nat15:=ga.at_;have hO:=Uj hO;have h:=Ui h;have hkf:=Ui hkf;refine AS fun _ ga Ca g E=>?_;first|have h:=h.keep ga Ca O (.inl rfl)|have h:=h.keep ga Ca O (.inr ⟨by simp,fun hm=>by have:=htb2 _ hm;omega⟩)
 have hkf:=Ud hkf;have hO:=Ua hO;refine AU ?_;obtain ⟨_,pg2,cg2,hcg2,hkg2⟩:=Yr hkf (i:=0) O;have hZ:∀ j∈[b3,b4,b8,b9,b11,b14,b15],j<_:=E.ltm Ob;have hOlt:=hO.lt;refine AU ?_;refine CL (Js (Za (Za (Za t 0) i) 0) _ _ _ [b3,b4,b8,b9,b11,b14,b15] hkg2 O hZ g.size) ?_;rintro v121 w121 ⟨⟨p121,c121,rfl,q121,k121⟩,g121⟩;refine ⟨fun _=>g121,?_⟩;have g:=gtg g g121;replace E:=E.grow g121;have h:=h.grow (g121);have hO:=hO.grow (g121);obtain ⟨lo1,hl1a,hl1b,hl1o,hl1c,k121⟩:∃ lo,lo≤w121.heap.size∧w.heap.size≤lo∧(∀ k,(Ha sa (parA F (Za t 0) (funS0 S) i).1.length sc).ownBlock=some k→k<lo)∧(∀ j∈[b3,b4,b8,b9,b11,b14,b15],j<lo)∧KdX lo [b3,b4,b8,b9,b11,b14,b15] w121 (plainT (Za (Za (Za t 0) i) 0)).kids (.slice p121 (plainT (Za (Za (Za t 0) i) 0)).kids.length c121):=⟨_,g121.size,q121,hOlt,hZ,k121⟩;refine CN fun b122 _ ga _ g E=>?_;have hp122:=h;have nlt122:=ga.blk.lt;have nat122:=ga.at_;have hO:=Uj hO;have k121:=Uj k121;have h:=Ui h;have kr:KdX lo1 [b3,b4,b8,b9,b11,b14,b15] _ [plainT (Za (Za (Za t 0) i) 0)] (.slice (some ⟨b122,0,none⟩) 1 1):=Zsa (ks:=[plainT (Za (Za (Za t 0) i) 0)]) ⟨⟨O,fun hm=>by have:=hl1c b122 hm;omega⟩,Jp E.g0⟩ E.g0.row (Ve (Kd.mono k121 fun k hk _=>⟨⟨hk.1.1,fun hm=>hk.1.2 (Ana _ hm)⟩,hk.2⟩)) (Afa _);refine AS fun _ ga Ca g E=>?_;first|have h:=h.keep ga Ca O (.inl rfl)|have h:=h.keep ga Ca O (.inr ⟨by simp,fun hm=>by have:=htb2 _ hm;omega⟩)
 have hO:=Ua hO;have kr:=kr.keep ga Oi;refine AU ?_;refine Yx (gtC (b14::X) n0) [3,0,3,0,0,1,1,2,3,2] [0,1,0,0,0,28,60,127,255,511] mix KR [0,1,2,3,4,5,6,7,8,9] J ?_;have g:=gtd g;replace E:=E.dr;have h:=h.grow (G.drew _);have hO:=hO.grow (G.drew _);have kr:=kr.grow (G.drew _);refine Zr 0 J J (fun _=>Zh Zg (Zc J)) (Yg 1 J J (fun w1 hx=>Zt Zi (Zc J) (fun _=>(E.g4.gt hx J).at_ J)) (Zr 2 J J (fun _=>Zw (Zc J)) (Yg 3 J J (fun w1 hx=>Zo Zf (Zc J) J (fun _=>(E.g1.gt hx J).row)) (Yg 4 J J (fun w1 hx=>Zo Zj (Zc J) J (fun _=>(E.gtx hx).g2.row)) (Zm 5 J J ?_)))));refine Zl (L':=[6,7,8,9]) [3,0,3,0,0,2,1,2,3,2] J J J ?_;refine Y3 J Uw J J J (Joa (clnT (Za (Za t 0) i)) _ _ _ (ofF (Za (Za (Za t 0) i) 0)).1 h hei hbd O) ((fun ch w' hz=>hz.d (by rw [ed];exact Wke h4) g)) ?_;rintro v129 w129 ⟨hed,rfl,h,g129⟩;refine ⟨nw1,?_⟩;have g:=gtw g g129;replace E:=E.gtx g129;have hO:=hO.gt g129 rfl;have kr:=kr.gtc g129;refine Zs (g129) ?_;refine Zm 6 J J ?_;refine Zl (L':=[7,8,9]) [3,0,3,0,0,2,1,2,3,2] J J J ?_;refine CN fun _ _ N130 _ g E=>?_;have hp130:=h;have nlt130:=N130.blk.lt;have nat130:=N130.at_;have hO:=hO.new N130;have kr:=kr.new N130;have h:=h.grow (N130.g);refine Zs (GT.of_g (N130.g)) ?_;refine Zm 7 J J ?_;refine Ys (L':=[8,9]) [3,0,3,0,0,2,1,2,3,2] J J J J ?_;have hO:=hO.sub (Y:=[b3,b4,b8,b9]) Oj;have hOo:=hO
 refine Wia J Zd Zp J (Zc J) hO (Zc J) J E.g0.row (Vo (t:=.mk (Za (Za t 0) i).kind (Za (Za t 0) i).text (declN (parA F (Za t 0) (funS0 S) i).2) (Za (Za t 0) i).pos [plainT (Za (Za (Za t 0) i) 0)] ty0 1 0) kr O Oj (fun j hj=>.inr (hl1o j hj))) (by simp;omega) (by have:=g.size;omega) ⟨by have:=g.size;omega,by have q3:=E.g8.lt;have q4:=E.g7.lt;have q8:=E.g6.lt;have q9:=E.g5.lt;simp;omega⟩ ?_;intro a131 c131 w131 hO hg131;replace E:=E.sel [false,false,false,false,false,true,true,true,true];replace E:=E.keepX hg131 hOo.ne Ob;have g:=Wx g hg131 (fun k hk=>hOo.ge k hk);have h:=h.keepO hg131 hOo O;refine Xm ?_;refine Zr 8 J J (fun _=>Zh Zg (Zc J)) (Zm 9 J J ?_);refine Ys (L':=[]) [3,0,3,0,0,2,1,2,3,2] J J J J ?_;refine AS fun _ ga Ca g E=>?_;first|have h:=h.keep ga Ca O (.inl rfl)|have h:=h.keep ga Ca O (.inr ⟨by simp,fun hm=>by have:=htb2 _ hm;omega⟩)
 have hO:=Ua hO;refine Xm ?_;refine TK [0,3,4,8,9,11,14,15,60,61,62,63,64,65,66,67,68,69,70,71,72,73,74,75,76,77,79,80,81,82,83,84,85,86,87,88,89,90,91,92,93,94,95,96,97,109,110,111,112,113,114,115,116,117,118,119,120,121,122,123,124,125,126,127,128,129,130,131,132] ?_;refine AU ?_;refine SK [85,0,3,4,8,9,60,61,62,63,64,65,66,67,68,69,70,71,72,73,74,75,76,77,79,80,81,82,83,84] ?_;refine Ze (fun a ha=>?_);have en:=Vnf (n:=t) (S:=S) (i:=i) hei hloc;rw [show (Za (Za t 0) i).kids.map plainT=[plainT (Za (Za (Za t 0) i) 0)] by rw [kids1 hfl];rfl] at en;exact ⟨i+1,ha,⟨⟨h4,by rw [en];exact hed,by rw [en];exact h.sub htb.1 (fun j hj=>Ana _ hj),_,E.g0,by rw [en];exact hO⟩,g⟩,(Zx (blkE E.g3) (Zx (blkE E.g2) (Zx (blkE E.g1) (Wa _)))),O⟩;replace h4:i=(Za t 0).kids.length:=by simp only [Zbh] at h4;omega
 subst h4;refine AN fun b16 _ N16 _ g E=>?_;have hp16:=h;have nlt16:=N16.blk.lt;have nat16:=N16.at_;have hO:=hO.new N16;have h:=h.grow (N16.g);have h:=hp16.addX N16;refine Ze (kq (Zk (Zk (Zn (Xa Zg J (Xn Zi J (E.g4.at_ J) (Yja Zd J J O e0 (Xa Xd J (Xn Yf J ((hc1w.gt g hDp).one (i:=0) J) (Zdf J J (Ze (kq (Um J (fun h6=>?_) (fun h6=>?_))))))))))))));replace h6:(Za t 1).kind≠9:=by simpa using h6
 refine Zn (Zu J (Xa Zg J (Xn Zi J (E.g4.at_ J) (Yja Zd J J O e0 (Va Zf J J (hc1w.gt g hDp) (Y2 J Jw J J (Xdc (Za t 1) _ _ h hei O) ((fun ch w' hz=>hz.d (by rw [ed];exact Ujg h6 hei) g)) ?_))))));rintro _ _ ⟨rfl,hloc,ga⟩;refine RC fun g E=>?_;have h:=Uk h;have hO:=Uk hO;refine AS fun _ ga Ca g E=>?_;first|have h:=h.keep ga Ca O (.inl rfl)|have h:=h.keep ga Ca O (.inr ⟨by simp,fun hm=>by have:=htb2 _ hm;omega⟩)
 have hO:=Ua hO;refine AU ?_;obtain ⟨fv3,ms3,mg3,mn3,mf3,pv3,sv3,cv3,rv3,vs3,sc3,h⟩:=h;have e2:funS2 F t S = { (parA F (Za t 0) (funS0 S) (Za t 0).kids.length).2 with result:=(ofF (Za t 1)).1 }:=Wle (by first|exact fun _=>⟨hei,hloc⟩|exact fun h9=>absurd h6 h9);refine AU ?_;refine Ya _ J Wd Yz (pqc J pq0) J J ?_;intro b148 w148 N148;have l148:=Wc N148 g.size;have hp148:=h;have nlt148:=N148.blk.lt;have nat148:=N148.at_;have hO:=hO.new N148;have B148:=N148.blk;have g:=gtg g N148.g;replace E:=E.grow N148.g;have h:=h.grow (N148.g);refine AU ?_;refine Xi J Uz (Zc J) (Zc J) J h.B J J ?_;intro w150 hg150 hz150 B150;replace E:=E.keepT hg150 h.B rfl;have B148:=N148.blk.keep hg150 (Xu (Zta N148.blk h.B rfl));have g150:GT (mutC (b16::X)) n0 _ w150:=Uda h.B rfl h.hb h.bx hg150;have g:=gtw g g150;have hO:=hO.gt g150 rfl;have ro3:w150.ownsRow n0 24 2 (.slice (some ⟨b148,0,none⟩) 1 1) 1 ([(ofF (Za t 1)).1].flatMap tyCells):=by first|exact Yvb B148 O rfl Od|(rw [Vcb h6];exact Yvb B148 O rfl Od)
 have h:=(hp148.oth (q1:=some []) (S':={ (parA F (Za t 0) (funS0 S) (Za t 0).kids.length).2 with result:=(ofF (Za t 1)).1 }) ((GT.of_g N148.g).trans g150) B150 (Yi h.so hg150 (.inr (Xy h.so h.B rfl))) (h.sr.keepb hg150 h.B rfl) (Yi h.co hg150 (.inr (Xy h.co h.B rfl))) ro3 (fun l e=>by injection e with e;subst e;exact (Xkc F (Za t 0) S _).1.symm) (fun k hk=>.inl hk) (fun k hk=>.inr (by have e:b148=k:=(by injection hk);omega)) rfl rfl).pc;rw [← e2] at h;have he2:(funS2 F t S).ee=0:=by rw [e2];exact hei
 have hcan:CanV (funS2 F t S):=by rw [e2];exact Qdc F (Za t 0) S (Za t 0).kids.length
 have hbd2:=Wfe F t S;refine Ze (kq (Zk (Zn (Zu J (Xa Zg J (Xn Zi J (E.g4.at_ J) (Yja Zd J J O e0 (Va Zf J J (hc2w.gt g hDp) (Y2 J Vk J J (CxM.to hS2 [b3,b4,b8,b9,b16] h he2 hcan (hk2w.gt g (fun k h=>h)) hbd2 O (E.ltm Ob) g.size) ((fun ch w' hz=>hz.d (by rw [ed];exact (Er.refl _).failu _ _ _) g)) ?_)))))))));rintro v156 w156 ⟨⟨p156,c156,rfl,q156,k156⟩,he156,h,g156⟩;refine ⟨nw1,?_⟩;have g:=gtw g g156;replace E:=E.gtx g156;have hO:=hO.gt g156 rfl;refine AN fun b17 _ ga l17 g E=>?_;have hp17:=h;have nlt17:=ga.blk.lt;have nat17:=ga.at_;have hO:=Uj hO;have k156:=Uj k156;have h:=Ui h;refine AS fun _ ga Ca g E=>?_;first|have h:=h.keep ga Ca O (.inl rfl)|have h:=h.keep ga Ca O (.inr ⟨by simp,fun hm=>by have:=htb2 _ hm;omega⟩)
 have hO:=Ua hO;have k156:=k156.keep ga Oi;refine AU ?_;skip;refine Xg [0,3,0,3,0,1,0,1,3,2] [true,true,true,true,true,true,false,true,true,true] [0,0,2,6,14,30,0,127,255,511] mix KR ?_;have g:=gtd g;replace E:=E.dr;have h:=h.grow (G.drew _);have hO:=hO.grow (G.drew _);have k156:=k156.grow (G.drew _);have EC:=E;refine Va Zf J J E.g2.row (Xa Zg J (Xn Zi J (E.g5.at_ J) (Yja Zd J J O e0 (Va Zf J J (hc1w.gt g hDp) (CL (Js (Za t 1) _ _ _ [b3,b4,b8,b9,b16,b17] (hk1w.gt g (fun k h=>h)) O (E.ltm Ob) g.size) ?_)))));rintro _ _ ⟨⟨p162,c162,rfl,q162,k162⟩,ga⟩;refine RC fun g E=>?_;have h:=Uk h;have hO:=Uk hO;have k156:=Uk k156;refine Yac J (Zo Zf (Zc J) J (fun _=>EC.g0.row)) (CN fun _ _ ga l164 g E=>?_);have hp164:=h;have nlt164:=ga.blk.lt;have nat164:=ga.at_;have hO:=Uj hO;have k156:=Uj k156;have k162:=Uj k162;have h:=Ui h;refine AS fun _ ga Ca g E=>?_;first|have h:=h.keep ga Ca O (.inl rfl)|have h:=h.keep ga Ca O (.inr ⟨by simp,fun hm=>by have:=htb2 _ hm;omega⟩)
 have hO:=Ua hO;have k156:=k156.keep ga Oi;have k162:=k162.keep ga Oi;refine AU ?_;refine Yx (rowR none) [0,3,3,3,3,0,3,3,0,1,3,3,0,1] [0,0,3,7,15,31,63,127,255,511,1023,0,2048,8191] mix KR [0,1,2,3,4,5,6,7,8,9,10,11,12,13] J ?_;have g:=gtd g;replace E:=E.dr;have h:=h.grow (G.drew _);have hO:=hO.grow (G.drew _);have k156:=k156.grow (G.drew _);have k162:=k162.grow (G.drew _);refine Yg 0 J J (fun w1 hx=>Zo Zj (Zc J) J (fun _=>(E.g2.keep hx (fun h=>nomatch h)).row)) (Zr 1 J J (fun _=>Qt [_,_] Yz J Vj (Up) J) (Zr 2 J J (fun _=>Jd Wh (Zc J) (Zc J) J) (Zr 3 J J (fun _=>Zw (Zc J)) (Yqa (L':=[5,6,7,8,9,10,11,12,13]) 4 J J J J J (fun _=>Zh Zg (Zc J)) (Vba (L':=[6,7,8,9,10,11,12,13]) 5 J J J J J (fun w1 hx=>Zt Zi (Yc J id) (fun _=>(E.g6.keep hx (fun h=>nomatch h)).at_ J)) (Yqa (L':=[7,8,9,10,11,12,13]) 6 J J J J J (fun _=>Xr Zd (Yc J id) Xv (fun _=>O) (fun _=>e0)) (Yqa (L':=[8,9,10,11,12,13]) 7 J J J J J (fun _=>Zh Zg (Yc J id)) (Vba (L':=[9,10,11,12,13]) 8 J J J J J (fun w1 hx=>Zt Zi (Yc J id) (fun _=>((hc2w.gt g hDp).kn hx).one (i:=4) J)) (Zr 11 J J (fun _=>Zh Xp (Zc J)) (Yg 12 J J (fun w1 hx=>Zt Yf (Zc J) (fun _=>(E.g6.keep hx (fun h=>nomatch h)).at_ J)) (Zm 9 J J ?_)))))))))));refine Zl (L':=[10,13]) [0,3,3,3,3,0,3,3,0,1,3,3,0,1] J J J ?_;refine CG (fun hc=>Uqd 1000001 _ _ _ _ (hk2w.gt g (fun k h=>h)) (sh10 hb2) (by have:=Zjc (Za t 2);omega) (Afa _)) (fun w175 g175=>?_);have g:=gtg g g175;replace E:=E.grow g175;have h:=h.grow (g175);have hO:=hO.grow (g175)
 have k156:=k156.grow (g175);have k162:=k162.grow (g175);refine Zs ((g175).only _) ?_;refine Zr 10 J J (fun _=>Xo (Zc J) (Yc J id)) (Zm 13 J J ?_);refine Zl (L':=[]) [0,3,3,3,3,0,3,3,0,1,3,3,0,1] J J J ?_;refine Y3 J Yd J J J (Wy _ _ _ _) ((fun ch w' hz=>Zjd he156 Od (by rw [ed];first|exact Wcg h6|(rw [eqT0,← Xzd (fun _=>(Vbb hei hloc).2)];exact Er.refl _)) hz g)) ?_;rintro v179 w179 ⟨rfl,hq179,g179⟩;refine ⟨fun _=>g179,?_⟩;have g:=gtg g g179;replace E:=E.grow g179;have h:=h.grow (g179);have hO:=hO.grow (g179);have k156:=k156.grow (g179);have k162:=k162.grow (g179);refine Zs ((g179).only _) ?_;refine TK [0,3,4,8,9,16,17,60,61,62,63,64,65,66,67,68,69,70,71,72,73,74,75,76,77,79,80,81,82,83,84,85,86,134,135,136,137,138,139,140,141,142,143,144,145,146,147,148,149,150,151,152,153,154,155,156,157,158,159,160,161,162,163,164,165,166,167,168,169,170,171,172,173,174,175,176,177,178] ?_;refine AS fun _ ga Ca g E=>?_;first|have h:=h.keep ga Ca O (.inl rfl)|have h:=h.keep ga Ca O (.inr ⟨by simp,fun hm=>by have:=htb2 _ hm;omega⟩)
 have hO:=Ua hO;have k156:=k156.keep ga Oi;have k162:=k162.keep ga Oi;refine RTN ?_;have hz:(decide ((Za t 1).kind=9) || endsL (Za t 2).kids)=true:=by first|(rw [Jyg h6];rfl)|(rw [Xzd (fun _=>(Vbb hei hloc).2),← eqT0];exact hq179)
 have e:funR F t S=(annT t [annT (Za t 0) (parA F (Za t 0) (funS0 S) (Za t 0).kids.length).1 ty0,plainT (Za t 1),((ckT F (Za t 2)).sts (funS2 F t S)).1] ty0,failU (decide ((Za t 1).kind=9) || endsL (Za t 2).kids) t.pos 7 ((ckT F (Za t 2)).sts (funS2 F t S)).2):=rfl;rw [ed,e,hz];exact ⟨he156,Xh (t:=annT t [annT (Za t 0) (parA F (Za t 0) (funS0 S) (Za t 0).kids.length).1 ty0,plainT (Za t 1),_] ty0) rfl (Zsa (ks:=[annT (Za t 0) (parA F (Za t 0) (funS0 S) (Za t 0).kids.length).1 ty0,plainT (Za t 1),_]) ⟨l164,Jp E.g0⟩ E.g0.row (Qe (hO.sub (Y:=[b3,b4,b8,b9]) Oj).kd (Qe (k162.kdN q162) (Ve (k156.kdN q156)))) (Afa _)),(h.sub htb.1 (fun j hj=>Ana _ hj)).px,g⟩;replace h6:(Za t 1).kind=9:=by simpa using h6
 refine AU ?_;obtain ⟨fv3,ms3,mg3,mn3,mf3,pv3,sv3,cv3,rv3,vs3,sc3,h⟩:=h;have e2:funS2 F t S = { (parA F (Za t 0) (funS0 S) (Za t 0).kids.length).2 with result:=(ofF (Za t 1)).1 }:=Wle (by first|exact fun _=>⟨hei,hloc⟩|exact fun h9=>absurd h6 h9);refine AU ?_;refine Ya _ J Wd Yz (pqc J pq0) J J ?_;intro b148 w148 N148;have l148:=Wc N148 g.size;have hp148:=h;have nlt148:=N148.blk.lt;have nat148:=N148.at_;have hO:=hO.new N148;have B148:=N148.blk;have g:=gtg g N148.g;replace E:=E.grow N148.g;have h:=h.grow (N148.g);refine AU ?_;refine Xi J Uz (Zc J) (Zc J) J h.B J J ?_;intro w150 hg150 hz150 B150;replace E:=E.keepT hg150 h.B rfl;have B148:=N148.blk.keep hg150 (Xu (Zta N148.blk h.B rfl));have g150:GT (mutC (b16::X)) n0 _ w150:=Uda h.B rfl h.hb h.bx hg150;have g:=gtw g g150;have hO:=hO.gt g150 rfl;have ro3:w150.ownsRow n0 24 2 (.slice (some ⟨b148,0,none⟩) 1 1) 1 ([(ofF (Za t 1)).1].flatMap tyCells):=by first|exact Yvb B148 O rfl Od|(rw [Vcb h6];exact Yvb B148 O rfl Od)
 have h:=(hp148.oth (q1:=some []) (S':={ (parA F (Za t 0) (funS0 S) (Za t 0).kids.length).2 with result:=(ofF (Za t 1)).1 }) ((GT.of_g N148.g).trans g150) B150 (Yi h.so hg150 (.inr (Xy h.so h.B rfl))) (h.sr.keepb hg150 h.B rfl) (Yi h.co hg150 (.inr (Xy h.co h.B rfl))) ro3 (fun l e=>by injection e with e;subst e;exact (Xkc F (Za t 0) S _).1.symm) (fun k hk=>.inl hk) (fun k hk=>.inr (by have e:b148=k:=(by injection hk);omega)) rfl rfl).pc;rw [← e2] at h;have he2:(funS2 F t S).ee=0:=by rw [e2];exact hei
 have hcan:CanV (funS2 F t S):=by rw [e2];exact Qdc F (Za t 0) S (Za t 0).kids.length
 have hbd2:=Wfe F t S;refine Ze (kq (Zk (Zn (Zu J (Xa Zg J (Xn Zi J (E.g4.at_ J) (Yja Zd J J O e0 (Va Zf J J (hc2w.gt g hDp) (Y2 J Vk J J (CxM.to hS2 [b3,b4,b8,b9,b16] h he2 hcan (hk2w.gt g (fun k h=>h)) hbd2 O (E.ltm Ob) g.size) ((fun ch w' hz=>hz.d (by rw [ed];exact (Er.refl _).failu _ _ _) g)) ?_)))))))));rintro v156 w156 ⟨⟨p156,c156,rfl,q156,k156⟩,he156,h,g156⟩;refine ⟨nw1,?_⟩;have g:=gtw g g156;replace E:=E.gtx g156;have hO:=hO.gt g156 rfl;refine AN fun b17 _ ga _ g E=>?_;have hp17:=h;have nlt17:=ga.blk.lt;have nat17:=ga.at_;have hO:=Uj hO;have k156:=Uj k156;have h:=Ui h;refine AS fun _ ga Ca g E=>?_;first|have h:=h.keep ga Ca O (.inl rfl)|have h:=h.keep ga Ca O (.inr ⟨by simp,fun hm=>by have:=htb2 _ hm;omega⟩)
 have hO:=Ua hO;have k156:=k156.keep ga Oi;refine AU ?_;skip;refine Xg [0,3,0,3,0,1,0,1,3,2] [true,true,true,true,true,true,false,true,true,true] [0,0,2,6,14,30,0,127,255,511] mix KR ?_;have g:=gtd g;replace E:=E.dr;have h:=h.grow (G.drew _);have hO:=hO.grow (G.drew _);have k156:=k156.grow (G.drew _);have EC:=E;refine Va Zf J J E.g2.row (Xa Zg J (Xn Zi J (E.g5.at_ J) (Yja Zd J J O e0 (Va Zf J J (hc1w.gt g hDp) (CL (Js (Za t 1) _ _ _ [b3,b4,b8,b9,b16,b17] (hk1w.gt g (fun k h=>h)) O (E.ltm Ob) g.size) ?_)))));rintro _ _ ⟨⟨p162,c162,rfl,q162,k162⟩,ga⟩;refine RC fun g E=>?_;have h:=Uk h;have hO:=Uk hO;have k156:=Uk k156;refine Yac J (Zo Zf (Zc J) J (fun _=>EC.g0.row)) (CN fun _ _ ga l164 g E=>?_);have hp164:=h;have nlt164:=ga.blk.lt;have nat164:=ga.at_;have hO:=Uj hO;have k156:=Uj k156;have k162:=Uj k162;have h:=Ui h;refine AS fun _ ga Ca g E=>?_;first|have h:=h.keep ga Ca O (.inl rfl)|have h:=h.keep ga Ca O (.inr ⟨by simp,fun hm=>by have:=htb2 _ hm;omega⟩)
 have hO:=Ua hO;have k156:=k156.keep ga Oi;have k162:=k162.keep ga Oi;refine AU ?_;refine Yx (rowR none) [0,3,3,3,3,0,3,3,0,1,3,3,0,1] [0,0,3,7,15,31,63,127,255,511,1023,0,2048,8191] mix KR [0,1,2,3,4,5,6,7,8,9,10,11,12,13] J ?_;have g:=gtd g;replace E:=E.dr;have h:=h.grow (G.drew _);have hO:=hO.grow (G.drew _);have k156:=k156.grow (G.drew _);have k162:=k162.grow (G.drew _);refine Yg 0 J J (fun w1 hx=>Zo Zj (Zc J) J (fun _=>(E.g2.keep hx (fun h=>nomatch h)).row)) (Zr 1 J J (fun _=>Qt [_,_] Yz J Vj (Up) J) (Zr 2 J J (fun _=>Jd Wh (Zc J) (Zc J) J) (Zr 3 J J (fun _=>Zw (Zc J)) (Yqa (L':=[5,6,7,8,9,10,11,12,13]) 4 J J J J J (fun _=>Zh Zg (Zc J)) (Vba (L':=[6,7,8,9,10,11,12,13]) 5 J J J J J (fun w1 hx=>Zt Zi (Yc J id) (fun _=>(E.g6.keep hx (fun h=>nomatch h)).at_ J)) (Yqa (L':=[7,8,9,10,11,12,13]) 6 J J J J J (fun _=>Xr Zd (Yc J id) Xv (fun _=>O) (fun _=>e0)) (Yqa (L':=[8,9,10,11,12,13]) 7 J J J J J (fun _=>Zh Zg (Yc J id)) (Vba (L':=[9,10,11,12,13]) 8 J J J J J (fun w1 hx=>Zt Zi (Yc J id) (fun _=>((hc2w.gt g hDp).kn hx).one (i:=4) J)) (Zr 11 J J (fun _=>Zh Xp (Zc J)) (Yg 12 J J (fun w1 hx=>Zt Yf (Zc J) (fun _=>(E.g6.keep hx (fun h=>nomatch h)).at_ J)) (Zm 9 J J ?_)))))))))));refine Zl (L':=[10,13]) [0,3,3,3,3,0,3,3,0,1,3,3,0,1] J J J ?_;refine CG (fun hc=>Uqd 1000001 _ _ _ _ (hk2w.gt g (fun k h=>h)) (sh10 hb2) (by have:=Zjc (Za t 2);omega) (Afa _)) (fun w175 g175=>?_);have g:=gtg g g175;replace E:=E.grow g175;have h:=h.grow (g175);have hO:=hO.grow (g175)
 have k156:=k156.grow (g175);have k162:=k162.grow (g175);refine Zs ((g175).only _) ?_;refine Zr 10 J J (fun _=>Xo (Zc J) (Yc J id)) (Zm 13 J J ?_);refine Zl (L':=[]) [0,3,3,3,3,0,3,3,0,1,3,3,0,1] J J J ?_;refine Y3 J Yd J J J (Wy _ _ _ _) ((fun ch w' hz=>Zjd he156 Od (by rw [ed];first|exact Wcg h6|(rw [eqT0,← Xzd (fun _=>(Vbb hei hloc).2)];exact Er.refl _)) hz g)) ?_;rintro v179 w179 ⟨rfl,hq179,g179⟩;refine ⟨fun _=>g179,?_⟩;have g:=gtg g g179;replace E:=E.grow g179;have h:=h.grow (g179);have hO:=hO.grow (g179);have k156:=k156.grow (g179);have k162:=k162.grow (g179);refine Zs ((g179).only _) ?_;refine TK [0,3,4,8,9,16,17,60,61,62,63,64,65,66,67,68,69,70,71,72,73,74,75,76,77,79,80,81,82,83,84,85,86,134,135,136,137,138,139,146,147,148,149,150,151,152,153,154,155,156,157,158,159,160,161,162,163,164,165,166,167,168,169,170,171,172,173,174,175,176,177,178] ?_;refine AS fun _ ga Ca g E=>?_;first|have h:=h.keep ga Ca O (.inl rfl)|have h:=h.keep ga Ca O (.inr ⟨by simp,fun hm=>by have:=htb2 _ hm;omega⟩)
 have hO:=Ua hO;have k156:=k156.keep ga Oi;have k162:=k162.keep ga Oi;refine RTN ?_;have hz:(decide ((Za t 1).kind=9) || endsL (Za t 2).kids)=true:=by first|(rw [Jyg h6];rfl)|(rw [Xzd (fun _=>(Vbb hei hloc).2),← eqT0];exact hq179)
 have e:funR F t S=(annT t [annT (Za t 0) (parA F (Za t 0) (funS0 S) (Za t 0).kids.length).1 ty0,plainT (Za t 1),((ckT F (Za t 2)).sts (funS2 F t S)).1] ty0,failU (decide ((Za t 1).kind=9) || endsL (Za t 2).kids) t.pos 7 ((ckT F (Za t 2)).sts (funS2 F t S)).2):=rfl;rw [ed,e,hz];exact ⟨he156,Xh (t:=annT t [annT (Za t 0) (parA F (Za t 0) (funS0 S) (Za t 0).kids.length).1 ty0,plainT (Za t 1),_] ty0) rfl (Zsa (ks:=[annT (Za t 0) (parA F (Za t 0) (funS0 S) (Za t 0).kids.length).1 ty0,plainT (Za t 1),_]) ⟨l164,Jp E.g0⟩ E.g0.row (Qe (hO.sub (Y:=[b3,b4,b8,b9]) Oj).kd (Qe (k162.kdN q162) (Ve (k156.kdN q156)))) (Afa _)),(h.sub htb.1 (fun j hj=>Ana _ hj)).px,g⟩
theorem Qze:(typeNames.all fun s=>(decide (Vl ⟨typKind s,[]⟩ = !decide (8≤typKind s))) && !decide (typKind s=0))=true:=KR
theorem Vpf{s:List UInt8}(h:Vt s=true):Vl ⟨typKind s,[]⟩=(!decide (8≤typKind s))∧typKind s≠0:=by
 have:=Aca.1 Qze s ((Zbc _ _).1 h);simpa using this
theorem Xlc{k:Nd}(h:Xaa k=true):GoodT (ofF k).1∧tyEqB (ofF k).1 ty0=false:=by
 unfold Xaa at h;unfold ofF;cases h8:decide (k.kind=8);rw [h8] at h;cases h7:decide (k.kind=7);rw [h7] at h;cases h;rw [h7] at h;have h:(Vt k.text&&Jla k)=true:=h;obtain ⟨h1,h2⟩:=Aka.1 h;rw [h2,h1,show decide (k.kind=9)=false from Jxg (by have:=Zch h7;omega)];obtain ⟨g1,g2⟩:=Vpf h1;refine ⟨g1,?_⟩;cases q:tyEqB (⟨typKind k.text,[]⟩:Ty) ty0;exact q;have e:=(Yrc _ _).1 q;exact absurd (congrArg Ty.kind e) g2;rw [h8] at h;have h:(nameB k.text&&Jla k)=true:=h;obtain ⟨h1,h2⟩:=Aka.1 h;rw [h2,h1,show decide (k.kind=9)=false from Jxg (by have:=Zch h8;omega)];refine ⟨?_,?_⟩;show Vl ⟨4,k.text⟩=true;have e:refB ⟨4,k.text⟩=true:=h1;unfold Vl;rw [e,Bool.or_true];cases q:tyEqB (⟨4,k.text⟩:Ty) ty0;exact q;have e:=(Yrc _ _).1 q;exact absurd (congrArg Ty.kind e) (show ¬ (4:Int)=0 by decide)
theorem Qda{kd:Int}{s:List UInt8}{F:Nd}(h:0≤(findD F kd s).2):∃ j,∃ hj:j<F.kids.length,(Za F j).kind=kd∧(Za F j).text=s∧(findD F kd s).1=Za F j:=by
 obtain ⟨j,hj,h1,h2,_⟩:=Zmc kd s F.kids 0 h;refine ⟨j,hj,by rw [Yj hj];exact h1,?_,by rw [Yj hj];exact h2⟩
 have e:∀ (l:List Nd) (k:Nat),0≤(findK kd s l k).2→(findK kd s l k).1.text=s:=by
  intro l
  induction l with
  | nil=>intro k h;exact absurd h (show ¬ (0:Int)≤-1 by decide)
  | cons d l ih =>
   intro k h;unfold findK at h ⊢;cases hd:decide (d.kind=kd);rw [hd] at h;exact ih k h;rw [hd] at h;cases hs:decide (d.text=s);rw [hs] at h;exact ih (k+1) h;exact Zch hs
 have h3:=e F.kids 0 h;rw [h2] at h3;rw [Yj hj];exact h3
theorem Wad{F:Nd}{i j:Nat}(hj:j<i)(hi:i<F.kids.length)(e:(Za F j).text=(Za F i).text):dupAt F i=true:=by
 unfold dupAt;rw [List.any_eq_true];refine ⟨Za F j,?_,Jyg e⟩;rw [Yj O,List.mem_take_iff_getElem];exact ⟨j,O,rfl⟩
theorem fw_of{F:Nd}(hv:validB F=true)(hd:∀ j,j<F.kids.length→dupAt F j=false):FW F:=by
 obtain ⟨h1,hp⟩:=Vab hv;have hdc:=Xjc h1 hp;refine ⟨fun s hs=>?_,fun s hs=>?_,fun s f hf=>?_,fun s hs=>?_⟩;obtain ⟨j,hj,k4,_,e⟩:=Qda hs;rw [e];obtain ⟨_,_,ht,_⟩:=pf4 k4 (hdc _ (Jpa hj)).2;unfold resT;rcases ht with ht|ht;rw [(Xlc ht).2];exact (Jxg (Xod ht)).symm;have h9:=(Vy ht).1;rw [Vcb h9,Jyg h9];rfl;obtain ⟨j,hj,k6,_,e⟩:=Qda hs;rw [e];exact (Xlc (pf6 k6 (hdc _ (Jpa hj)).2).2.1).1;unfold Ug at hf
 cases hq:F.kids.find? (isStr s) with
 | none=>rw [hq] at hf;cases hf
 | some d =>
  rw [hq] at hf;have hm:=List.mem_of_find?_eq_some hq
  have h2:d.kind=2:=by
   have:=List.find?_some hq;unfold isStr at this;simp only [Bool.not_eq_true',Bool.or_eq_false_iff,Bool.not_eq_false',Zah] at this;exact this.1
  have hpd:=(hdc d hm).2;dsimp only at hf
  cases hl:mapO Zka d.kids with
  | none=>rw [hl] at hf;cases hf
  | some l =>
   rw [hl] at hf;obtain ⟨z,hz,e⟩:=Ugc _ _ hl f hf;have hz3:=Yna (.inl h2) hpd z hz;obtain ⟨hzl,hzt⟩:=pf3 hz3.1 hz3.2;unfold Zka at e;rw [hz3.1,hzl] at e;have e:(bif (ofF (kid0 z)).2 then some ⟨z.text,(ofF (kid0 z)).1⟩ else none)=some f:=e;cases h2:(ofF (kid0 z)).2;rw [h2] at e;cases e;rw [h2] at e;injection e with e;subst e;exact (Xlc hzt).1
 obtain ⟨i,hi,k6,e6,_⟩:=Qda hs;rcases Int.lt_or_le (findD F 4 s).2 0 with h|h;exact h;obtain ⟨j,hj,k4,e4,_⟩:=Qda h;rcases Nat.lt_trichotomy i j with q|q|q;have:=Wad q hj (e6.trans e4.symm);rw [hd j hj] at this;cases this;subst q;rw [k6] at k4;exact absurd k4 Od;have:=Wad q hi (e4.trans e6.symm);rw [hd i hi] at this;cases this
def RecD(P:Fa)(f:FuncId)(args:Array Ga)(u u':FrameMode)(w:Aa)(R:Ga→Aa→Prop):Prop:=CallsDIn Fence.wide (0-1) P f args u w fun e u2 w'=>u2=u'∧∃ v,e = .returned v∧R v w'
section
variable {P:Fa} {n:Nat} {fn:Func} {R:Ga→Aa→Prop} {Rp:List Da→Aa→Prop} {σ:List Ent} {w:Aa} {ds:List Deferred}
theorem Ukg{f:Nat}{cs args:Array Ga}{R':Ga→Aa→Prop}(hgo:goFn P f=true)(hC:RecD P f (args++cs) .returning .returning w R')(h:∀ v w',R' v w'→∀ a,Kn n σ a→TD P fn R Rp ds a w'):∀ a,Kn n σ a→TD P fn R Rp (fnD f cs args::ds) a w:=fun a ha=>by
 refine ⟨by simp,.inr ⟨(fun h=>by cases h),.func f,cs,f,args++cs,rfl,Xrb hgo _ _,fun _ _=>trivial,?_⟩⟩;refine ⟨hC.1,fun c cs' hu hr=>?_⟩;obtain ⟨e,u',w',fr,⟨rfl,v,rfl,hv⟩,h2⟩:=hC.2 c cs' hu hr;refine ⟨.returned v,_,w',fr,?_,h2⟩;show LeavesInM _ _ _ _ _ _ _ (settle .returning) _;exact h v w' hv a ha
theorem Ulg{f:Nat}{cs args:Array Ga}{ch:List Da}{u':FrameMode}{R':Ga→Aa→Prop}(hgo:goFn P f=true)(hs:settle u' = .returning)(hC:RecD P f (args++cs) (.panicking ch) u' w R')(h:∀ v w',R' v w'→∀ a,Kn n σ a→TD P fn R Rp ds a w'):∀ a,Kn n σ a→ZD P fn R Rp ch (fnD f cs args::ds) a w:=fun a ha=>by
 refine ⟨by simp,.inr ⟨(fun h=>by cases h),.func f,cs,f,args++cs,rfl,Xrb hgo _ _,fun _ _=>trivial,?_⟩⟩;refine ⟨hC.1,fun c cs' hu hr=>?_⟩;obtain ⟨e,u2,w',fr,⟨rfl,v,rfl,hv⟩,h2⟩:=hC.2 c cs' hu hr;refine ⟨.returned v,_,w',fr,?_,h2⟩;show LeavesInM _ _ _ _ _ _ _ (settle u2) _;rw [hs];exact h v w' hv a ha
theorem Yde{F:Fence}{k i:Nat}{ops:Array Oper}{Q:Exit→Act→List Frame→Aa→Prop}{l:List Nat}{a:Act}{cs:List Frame}{o:Oper}{v:Ga}{w':Aa}(ho:ops[i]? = some o)(hg:o.guard=none)(hr:(execOp a.eval o).run P w = .ok (.value v) w')(hab:∀ f,o.about P w a.eval=some f→F.fn f)
 (h:wpOpsSIn F k P ops Q l (a.put o.dst v) cs w'):wpOpsSIn F k P ops Q (i::l) a cs w:=by
 unfold wpOpsSIn;simp only [ho];refine ⟨hab,?_⟩;rw [if_pos (by unfold Region.wanted;rw [hg])];simp only [hr];exact h
theorem Wbd{F:Fence}{k i:Nat}{ops:Array Oper}{Q:Exit→Act→List Frame→Aa→Prop}{l:List Nat}{a:Act}{cs:List Frame}{o:Oper}{w':Aa}(ho:ops[i]? = some o)(hg:o.guard=none)(hr:(execOp a.eval o).run P w = .ok .recover w')(hab:∀ f,o.about P w a.eval=some f→F.fn f)
  (h:match recoverD cs with
   | some (v,cs')=>wpOpsSIn F k P ops Q l (a.put o.dst v) cs' w'
   | none=>wpOpsSIn F k P ops Q l (a.put o.dst .nilIface) cs w'):wpOpsSIn F k P ops Q (i::l) a cs w:=by
 unfold wpOpsSIn
 simp only [ho]
 refine ⟨hab,?_⟩
 rw [if_pos (by unfold Region.wanted;rw [hg])]
 simp only [hr]
 exact h
theorem Qec{f id d0 d1:Nat}{fn:Func}{t0 t1:Ba}{p0 p1:String}{e0 e1:Array Edge}{rest:Code}{args:List Ga}{x:Ga}{u u':FrameMode}{R:Ga→Aa→Prop}{m:Nat}
 (hf:P.funcs[f]? = some fn) (hb:fn.body=some (.seq (.region id #[⟨some d0,.call { callee:=.builtin .recover,args:=#[],argTypes:=#[] },t0,p0,e0,none⟩,⟨some d1,.assign (.tmp d0),t1,p1,e1,none⟩] false) rest)) (hm:args.length+(fn.ntmps-args.length)=m)
 (σ0:List Ent) (hs:Sub σ0 (argsK 0 args)) (h0:Aba d0 m=true) (h1:Aba d1 m=true)
 (hrec:∀ (c₀:Frame) (cs:List Frame),c₀.mode=u→recoverD (c₀::cs)=some (x,{ c₀ with mode:=u' }::cs)∨(recoverD (c₀::cs)=none∧x = .nilIface∧u'=u))
 (hh:SC P m rest (fun a w=>bodyPost P fn (fun e w'=>∃ v,e = .returned v∧R v w') .normal a w) [] (fun a w=>bodyPost P fn (fun e w'=>∃ v,e = .returned v∧R v w') .ret a w) ((d1,True,x)::(d0,True,x) :: σ0) w):RecD P f args.toArray u u' w R:=by
 refine callsDIn_of_wpSIn hf hb trivial fun c₀ cs hu=>?_
 have hk:Kn m σ0 { tmps:=args.toArray++Array.replicate (fn.ntmps-args.toArray.size) undef,defers:=[] }:=by
  refine Kn.sub (σ:=argsK 0 args) ?_ hs;refine ⟨by simp [← hm],rfl,fun t c' v hl=>?_⟩;obtain ⟨rfl,_,h3⟩:=Waa args 0 t c' v hl;refine ⟨fun _=>?_,fun hn=>absurd trivial hn⟩;rw [Nat.sub_zero] at h3;have hlt:t<args.length:=(List.getElem?_eq_some_iff.1 h3).1;simp [Array.getElem?_append,hlt,h3];simpa [hlt] using h3
 generalize ({ tmps:=args.toArray++Array.replicate (fn.ntmps-args.toArray.size) undef,defers:=[] }:Act)=a0 at hk ⊢;have hk1:Kn m ((d0,True,x) :: σ0) (a0.put (some d0) x):=hk.put h0 (fun _=>rfl) fun h=>absurd trivial h;have hk2:Kn m ((d1,True,x)::(d0,True,x) :: σ0) ((a0.put (some d0) x).put (some d1) x):=hk1.put h1 (fun _=>rfl) fun h=>absurd trivial h
 have key:∀ cs',cs' = { c₀ with mode:=u' }::cs→rest.wpSIn Fence.wide (0-1) P (bodyPostS P fn c₀ cs fun e u2 w'=>u2=u'∧∃ v,e = .returned v∧R v w') ((a0.put (some d0) x).put (some d1) x) cs' w:=fun cs' e=>by
  subst e;refine wpSIn_of_wpIn J (wpIn_mono (F:=Fence.wide) (wpIn_wide.2 (hh _ hk2)) fun e a w q=>?_)
  cases e with
  | normal =>
   obtain ⟨hd,v,hr,v',e,hv⟩:=q;exact ⟨hd,_,rfl,v,hr,rfl,v',e,hv⟩
  | ret =>
   obtain ⟨hd,v,hr,v',e,hv⟩:=q;exact ⟨hd,_,rfl,v,hr,rfl,v',e,hv⟩
  | panic ch=>exact q.2.elim
  | _=>exact q.elim
 refine wpSIn_seq (wpSIn_region ?_);have ex:(a0.put (some d0) x).eval (.tmp d0)=x:=Zc (σ:=(d0,True,x) :: σ0) (t:=d0) (by unfold look;rw [Ala];rfl) _ hk1 trivial
 have step2:∀ cs',cs' = { c₀ with mode:=u' }::cs→wpOpsSIn Fence.wide (0-1) P #[⟨some d0,.call { callee:=.builtin .recover,args:=#[],argTypes:=#[] },t0,p0,e0,none⟩,⟨some d1,.assign (.tmp d0),t1,p1,e1,none⟩] (Exit.thenS (rest.wpSIn Fence.wide (0-1) P (bodyPostS P fn c₀ cs fun e u2 w'=>u2=u'∧∃ v,e = .returned v∧R v w')) (bodyPostS P fn c₀ cs fun e u2 w'=>u2=u'∧∃ v,e = .returned v∧R v w')) [1] (a0.put (some d0) x) cs' w:=fun cs' e=>by
  exact Yde (i:=1) rfl rfl (by simp [execOp,ex]) (fun _ _=>trivial) (key cs' e)
 show wpOpsSIn Fence.wide (0-1) P _ _ [0,1] a0 (c₀::cs) w;refine Wbd (i:=0) (w':=w) J J (by simp [execOp,resolve,invoke,builtin]) (fun _ _=>trivial) ?_;rcases hrec c₀ cs hu with hq|⟨hq,hx,hu'⟩;rw [hq];exact step2 _ rfl;rw [hq];subst hx;exact step2 _ (by rw [hu',← hu])
end
def Agr(n:Nat)(ts:List Nat)(a a':Act):Prop:=a.tmps.size=a'.tmps.size∧a'.defers=[]∧∀ t∈ts,a'.tmps[t]? = a.tmps[t]?
theorem Ymg{n:Nat}{ts:List Nat}{a a':Act}{d:Option Tmp}{v:Ga}(h:Agr n ts a a')(hd:∀ k,d=some k→k∉ts):Agr n ts (a.put d v) a':=by
 cases d with
 | none=>exact h
 | some k =>
  refine ⟨by simp [Act.put,h.1],h.2.1,fun t ht=>?_⟩;have hk:k≠t:=fun e=>hd k rfl (by rw [e];exact ht);rw [h.2.2 t ht];simp only [Act.put];rw [Array.getElem?_setIfInBounds_ne hk]
theorem Yee{P:Fa}{n:Nat}{ds:List Deferred}{N T:DPost}{X:List (Nat×DPost)}{Z:List Da→DPost}{σ:List Ent}{w:Aa}{id:Nat}{l:List Oper}(ts:List Nat)(row:RelX)(cl:List Nat)(ms:List Nat)(hm:P.follows .mixedOrders=true)(hok:okT l cl ms=true)(L:List Nat)(hL:List.range l.length=L)
 (hts:(l.all fun o=>match o.dst with|some d=>ts.all fun t=>!Aaa d t|none=>true)=true)
 (h:ST P (fun ch a w=>∀ a',Agr n ts a a'→Z ch ds a' w) l cl ms row n (N ds) l.length L σ w.drew):SCD P none n ds (.region id l.toArray true) N X T Z σ w:=fun a ha=>by
 have h1:=h a ha;subst hL;have h2:=RT.wd (Z:=fun ch ds a w=>∀ a',Agr n ts a a'→Z ch ds a' w) (N:=N) ds _ _ a w.drew ha.2.1 h1;have h3:RT P (fun ch=>onD (fun ds a w=>∀ a',Agr n ts a a'→Z ch ds a' w)) l.toArray (clOf cl) (wtOf ms) row (onD N) l.toArray.size (List.range l.toArray.size) (wd ds a) w.drew:=by simpa using h2
 refine Qgb (Z:=fun ch=>onD (fun ds a w=>∀ a',Agr n ts a a'→Z ch ds a' w)) (fun ch a d v w ho hz=>?_) (Vgc hok) (fun ch a w h=>h _ ⟨rfl,rfl,fun _ _=>rfl⟩) hm h3;obtain ⟨i,o,hi,rfl⟩:=ho;have hz:∀ a',Agr n ts (wd [] (a.put o.dst v)) a'→Z ch (a.put o.dst v).defers a' w:=hz;rw [Zba,← Qrb] at hz;intro a' ha';refine hz a' (Ymg ha' fun k hk hm=>?_)
 have hmem:o∈l:=by
  rw [List.getElem?_toArray] at hi;exact Bfa hi
 have:=Aca.1 hts o hmem;rw [hk] at this;have:=Aca.1 this k hm;simp at this
theorem Zkd{P:Fa}{n:Nat}{ds:List Deferred}{N T:DPost}{X:List (Nat×DPost)}{Z:List Da→DPost}{σ:List Ent}{w:Aa}{c:Code}{α:Type}(I:α→Aa→Prop)(E:Aa→Prop)(σc:List Ent)(σf:α→List Ent)(μ:α→Nat)(x0:α)(h0:I x0 w)(hE:E w)(hs:Sub (σf x0 ++ σc) σ)
 (round:∀ x w,I x w→E w→SCD P none n ds c (fun ds' a' w'=>ds'=ds∧∃ y,Kn n (σf y ++ σc) a'∧I y w'∧E w'∧μ y < μ x) X T Z (σf x ++ σc) w):SCD P none n ds (.loop c) N X T Z σ w:=by
 refine Ure (fun x w=>I x w∧E w) σc σf μ x0 ⟨h0,hE⟩ hs fun x w h=>fun a ha=>wpIn_mono (round x w h.1 h.2 a ha) (fun e a w q=>?_)
 cases e with
 | normal=>obtain ⟨q1,y,q2,q3,q4,q5⟩:=q;exact ⟨q1,y,q2,⟨q3,q4⟩,q5⟩
 | _=>exact q
theorem Agr.kn{n:Nat}{ts:List Nat}{a a':Act}{σ τ:List Ent}(h:Agr n ts a a')(ha:Kn n σ a)(hs:Sub τ σ)(ht:∀ t c v,look τ t=some (c,v)→t∈ts):Kn n τ a' :=
 ⟨h.1.symm.trans ha.1,h.2.1,fun t c v hl=>by rw [h.2.2 t (ht t c v hl)];exact ha.2.2 t c v (hs t c v hl)⟩
theorem Yfe{P:Fa}{n:Nat}{σ:List Ent}{c:Prop}{wb:Aa}{ty t xt:Ba}{x:Ea}{u:Ga}(ht:Ycc P t=true)(h:Ev n σ c x (.iface t u)):Rd P n σ c wb (.typeAssert x xt t true) ty (.tuple #[u,.bool true]):=.mk fun d pos after gd a ha hc w1 _=>by
 have hx:=h a ha hc;unfold Ycc at ht;split at ht;cases ht;rename_i τ hτ hu
 have r:(Instr.typeAssert (.iface t u) xt t true).run P w1 = .ok (.tuple #[u,.bool true]) w1:=by
  cases τ <;> first|(exact absurd rfl (hτ _))|simp [Instr.typeAssert,run_underlying hu]
 simp [execOp,hx,r];cases ht
theorem Yge:Ycc PP 48=true:=KR
theorem Vqf(c₀:Frame)(cs:List Frame)(h:c₀.mode = .returning):recoverD (c₀::cs)=some (.nilIface,{ c₀ with mode:=.returning }::cs)∨(recoverD (c₀::cs)=none∧Value.nilIface = .nilIface∧FrameMode.returning = .returning):=by
 refine .inr ⟨?_,rfl,rfl⟩;simp only [recoverD,h]
theorem Vrf(v:Ga)(c₀:Frame)(cs:List Frame)(h:c₀.mode = .panicking [⟨v,false,false⟩]):recoverD (c₀::cs)=some (v,{ c₀ with mode:=.panicking [⟨v,true,false⟩] }::cs)∨(recoverD (c₀::cs)=none∧v = .nilIface∧FrameMode.panicking [⟨v,true,false⟩] = .panicking [⟨v,false,false⟩]):=by
 refine .inl ?_;simp only [recoverD,h]
theorem Jae{c2 c3 c4:Ga}{w:Aa}:RecD PP 28 #[c2,c3,c4] .returning .returning w fun r w'=>r = .tuple #[]∧G w w':=by
 have g:=G.refl w;refine Qec (m:=22) (x:=.nilIface) Tryz.func28 J J [(0,True,_),(1,True,_),(2,True,_)] (Zb J (Zb J (Zb J (Zq _)))) J J (Vqf) ?_;refine Zk (Zn (Zu rfl (Zz rfl (fun _=>Jgd Jlb (Zc rfl) (by first|exact .inl rfl|exact .inr ⟨_,_,rfl⟩)) (Ze (kq (Um rfl (fun h1=>?_) (fun h1=>?_)))))))
 ·exact absurd h1 Od
  done
 refine Yu (Ypa J ?_);exact ⟨rfl,g⟩
theorem Jbe{a e:Int}{bn bi be:Nat}{w:Aa}{u2:Nd}{s2 x y:Ga}(Bn:Blk w bn 26 (ndCells u2 s2))(Bi:Blk w bi 3 [x])(Be:Blk w be 30 [y]) :
 RecD PP 28 #[.pointer (some ⟨bn,0,none⟩),.pointer (some ⟨bi,0,none⟩),.pointer (some ⟨be,0,none⟩)] (.panicking [failE a e]) (.panicking [⟨(failE a e).v,true,false⟩]) w fun r w'=>r = .tuple #[]∧Blk w' bn 26 (ndCells nd0 (.slice none 0 0))∧Blk w' bi 3 [.int .i64 a]∧Blk w' be 30 [.int .i64 e]∧OutG [bn,bi,be] w w':=by
 have hbn:=Bn.lt;have hbi:=Bi.lt;have hbe:=Be.lt;have g:=G.refl w;refine Qec (m:=22) (x:=(failE a e).v) Tryz.func28 J J [(0,True,_),(1,True,_),(2,True,_)] (Zb J (Zb J (Zb J (Zq _)))) J J (Vrf _) ?_;refine Zk (Zn (Zu rfl (Zz rfl (fun _=>Jgd Jlb (Zc rfl) (by first|exact .inl rfl|exact .inr ⟨_,_,rfl⟩)) (Ze (kq (Um rfl (fun h1=>?_) (fun h1=>?_)))))))
 ·(try simp only [bsimp] at h1)
  refine Zk ?_;refine Vkb [3,0,3,3,3,1,2,3] ?_;refine AU ?_;refine Qb J (Yfe Yge (Zc J)) ?_;refine AM fun _ _ ga _ g E=>?_;have Bn:=Ui Bn;have Bi:=Ui Bi;have Be:=Ui Be;refine AS fun _ ga _ g E=>?_;have Bn:=Bn.keep ga (by intro e;injection e with e;omega);have Bi:=Bi.keep ga (by intro e;injection e with e;omega);have Be:=Be.keep ga (by intro e;injection e with e;omega);refine IF (fun h2=>?_) fun h2=>?_
  ·exact absurd h2 Od
   done
  refine AU ?_;refine Yx (outR [bn,bi,be]) [3,3,0,3,0,1,1,2] [0,0,2,0,8,1,39,127] mix KR [0,1,2,3,4,5,6,7] J ?_;have g:=gdr g;replace E:=E.dr;have Bn:=Bn.grow (G.drew _);have Bi:=Bi.grow (G.drew _);have Be:=Be.grow (G.drew _);have gB:=OutG.of_g (X:=[bn,bi,be]) g;refine Zr 0 J J (fun _=>Qt [_,_,_,_,_,_,_,_,_] Zp J Jka (Up) J) (Zr 1 J J (fun _=>Zh Qka (Zc J)) (Yg 2 J J (fun w1 hx=>Zt Yf (Zc J) (fun _=>(E.g0.out hx (by intro hm;simp only [Aja,Aya,or_false] at hm;omega)).at_ J)) (Zr 3 J J (fun _=>Zh Qla (Zc J)) (Yg 4 J J (fun w1 hx=>Zt Yta (Zc J) (fun _=>(E.g0.out hx (by intro hm;simp only [Aja,Aya,or_false] at hm;omega)).at_ J)) (Zm 5 J J ?_)))));refine Zl (L':=[6,7]) [3,3,0,3,0,2,2,2] J J J ?_;refine Xb J Yk (Zc J) (Zc J) J J Bn J J ?_;intro wA hgA hzA BA;have gB:=gB.trans (OutG.of_row hgA Os);replace E:=E.keepT hgA Bn rfl;have Bi:=Bi.keep hgA (Xu (Zta Bi Bn rfl));have Be:=Be.keep hgA (Xu (Zta Be Bn rfl));have Bn:=BA;refine Zs (OutG.of_row hgA Os) ?_;refine Zm 6 J J ?_;refine Zl (L':=[7]) [3,3,0,3,0,2,2,2] J J J ?_;refine Xb J Vca (Zc J) (Zc J) J J Bi J J ?_;intro wB hgB hzB BB;have gB:=gB.trans (OutG.of_row hgB Os);replace E:=E.keepT hgB Bi rfl;have Bn:=Bn.keep hgB (Xu (Zta Bn Bi rfl));have Be:=Be.keep hgB (Xu (Zta Be Bi rfl));have Bi:=BB;refine Zs (OutG.of_row hgB Os) ?_;refine Zm 7 J J ?_;refine Ys (L':=[]) [3,3,0,3,0,2,2,2] J J J J ?_;refine Xb J Uga (Zc J) (Zc J) J J Be J J ?_;intro wC hgC hzC BC;have gB:=gB.trans (OutG.of_row hgC Os);replace E:=E.keepT hgC Be rfl;have Bn:=Bn.keep hgC (Xu (Zta Bn Be rfl));have Bi:=Bi.keep hgC (Xu (Zta Bi Be rfl))
  have Be:=BC;refine Xm ?_;refine TK [] ?_;refine Jl (Ypa J ?_);exact ⟨rfl,Bn,Bi,Be,gB⟩
 exact Aqa (show true=false from h1);done
section
variable {P:Fa} {Z:List Da→Act→Aa→Prop} {ops:List Oper} {cl:List Nat} {lv:List Bool} {W0:Aa} {n:Nat} {K:Act→Aa→Prop} {k:Nat} {rest:List Oper} {σ:List Ent} {w:Aa} {d:Nat} {ty:Ba} {pos:String} {after:Array Edge}
theorem Wac{t q q':Nat}{x y:Ea}{s zv:Ga}{news:List Ga}{b' o' lo:Nat}{X:List Nat}{ks ls:List Nd}(hb:(Aaa (clOf cl k) 2&&Aba d n)=true)(ht:tyElem P t=some (26,9,104))(hzv:zeroOf P 26=some zv)
 (hzs:zv.cells.size=9) (hx:Ev n σ True x s) (hO:OwnN X lo w ks s) (hy:Ev n σ True y (.slice (some ⟨b',o',none⟩) q q')) (hq:ls.length=q) (hn:RowAt w b' o' news) (hK:KRow w (fun b=>(Dx lo X b∧NdR w b)∧some b≠s.ownBlock) ls news)
 (hlen:ks.length+ls.length≤10000000) (hbase:lo≤w.heap.size) (hD:Dx lo X w.heap.size)
 (h:∀ a' c' w',OwnN X lo w' (ks++ls) (.slice a' (ks++ls).length c')→w.grownBy w' s.ownBlock→((Ha a' (ks++ls).length c').ownBlock=s.ownBlock∨(Ha a' (ks++ls).length c').ownBlock=some w.heap.size)→SR P Z ops cl lv W0 n K (k+1) rest ((d,True,.slice a' (ks++ls).length c') :: σ) w') :
 SR P Z ops cl lv W0 n K k (⟨some d,.call { callee:=.builtin .append,args:=#[x,y],argTypes:=#[t,t] },ty,pos,after,none⟩::rest) σ w:=by
 obtain ⟨xs,h1,h2,h3⟩:=id hO;subst hq;have ones:=Vob hK;refine Ur hb ht hzv hzs Od hx h1 hy (Wxa hK) hn ones (by simp only [maxLen];omega) O hbase fun a' c' w' ho hg hat=>?_;have hlen':(ks++ls).length=ks.length+ls.length:=by simp
 have hnd:∀ b,(Ha a' (ks.length+ls.length) c').ownBlock=some b→NdR w' b:=fun b hb=>by
  rcases ho.2 with ⟨q1,_⟩|⟨g,cap,cur,q1,_,q3,_⟩;rw [q1] at hb;cases hb;rw [q1] at hb;have:g=b:=by injection hb
  subst this;exact ⟨_,_,q3⟩
 have hO':OwnN X lo w' (ks++ls) (.slice a' (ks++ls).length c'):=by
  refine ⟨xs++news,by rw [hlen'];exact ho,?_,?_⟩;rw [hlen'];refine Qf (fun b hb hlt=>⟨⟨hb.1.1,hb.1.2.same (hg.block b hlt hb.2)⟩,?_⟩) (fun b hb hlt=>hg.block b hlt hb.2) _ _ (Wya h2 hK);rcases hat with he|he <;> rw [he]
  exact hb.2;intro e;injection e with e;omega;rw [hlen'];intro b hb;refine ⟨?_,hnd b hb⟩;rcases hat with he|he <;> rw [he] at hb
  exact (h3 b hb).1;injection hb with hb;exact hb▸hD
 have:=h a' c' w' hO' hg (by rw [hlen'];exact hat);rwa [Aga] at this
end
theorem Zld{w:Aa}{D:Nat→Prop}{u:Nd}:∀ {ks:List Nd} {xs:List Ga},KRow w D (ks++[u]) xs→KRow w D ks (xs.take (ks.length*9))
 | [],xs,h=>by show KRow w D [] (xs.take 0);rw [List.take_zero];exact Wkb
 | t::ts,xs,h=>by
  obtain ⟨v,r,rfl,h1,h⟩:=h;have k:=Zld h;refine ⟨v,r.take (ts.length*9),?_,h1,k⟩;have e:(ndCells t v).length=9:=Jn _ _;rw [List.take_append,e,Ata (by rw [e,List.length_cons];omega),show (t::ts).length*9-9=ts.length*9 by rw [List.length_cons];omega]
theorem OwnN.setl{X:List Nat}{lo:Nat}{w:Aa}{ks:List Nd}{u:Nd}{s:Ga}(h:OwnN X lo w (ks++[u]) s):∃ g c l,s = .slice (some ⟨g,0,none⟩) (ks++[u]).length c∧Blk w g 26 l∧ks.length*9+9≤l.length∧g∉X∧lo≤g∧
 ∀ {w':Aa} {t:Nd} {v:Ga},w.grownBy w' (some g)→Blk w' g 26 (l.take (ks.length*9)++ndCells t v++l.drop (ks.length*9+(ndCells t v).length))→KRow w (fun k=>(Dx lo X k∧NdR w k)∧some k≠s.ownBlock) [t] (ndCells t v)→OwnN X lo w' (ks++[t]) (.slice (some ⟨g,0,none⟩) (ks++[t]).length c):=by
 obtain ⟨xs,ho,hX,hD⟩:=h;have hl1:(ks++[u]).length=ks.length+1:=by simp
 obtain ⟨g,c,l,rfl,hge,hB,hmc,hlen,htk,hre⟩:=Vqb ho O;have hg:=hD g rfl;rw [hl1] at htk hmc;have hfit:ks.length*9+9≤l.length:=by rw [hlen];have:=Nat.mul_le_mul_right 9 hmc;omega
 refine ⟨g,c,l,rfl,hB,hfit,hg.1.2,hg.1.1,fun {w' t v} hw hB' hK=>?_⟩;have hl2:(ks++[t]).length=ks.length+1:=by simp
 have e9:(ndCells t v).length=9:=Jn _ _
 have et:(l.take (ks.length*9)++ndCells t v++l.drop (ks.length*9+(ndCells t v).length)).take ((ks.length+1)*9)=l.take (ks.length*9)++ndCells t v:=by
  rw [List.take_append_of_le_length (by rw [Aga,Aua,e9];omega),Ata (by rw [Aga,Aua,e9];omega)]
 have el:(l.take (ks.length*9)++ndCells t v++l.drop (ks.length*9+(ndCells t v).length)).length=c*9:=by
  rw [Aga,Aga,Aua,List.length_drop,e9];omega
 have ho':=hre w' _ hB' el;rw [hl1,et] at ho';have hk:=Zld hX
 have ex:xs.take (ks.length*9)=l.take (ks.length*9):=by
  rw [← htk,List.take_take,show min (ks.length*9) ((ks.length+1)*9)=ks.length*9 by omega]
 rw [ex] at hk;have hg':NdR w' g:=Jp hB';refine ⟨l.take (ks.length*9)++ndCells t v,by rw [hl2];exact ho',?_,fun k hk=>by injection hk with hk;subst hk;exact ⟨hg.1,hg'⟩⟩;refine Qf (fun k hk hlt=>⟨⟨hk.1.1,hk.1.2.same (hw.block k hlt fun e=>hk.2 e)⟩,hk.2⟩) (fun k hk hlt=>hw.block k hlt fun e=>hk.2 e) _ _ (Wya hk hK)
theorem KdX.app{lo l0:Nat}{X Y:List Nat}{w w':Aa}{ks ks0:List Nd}{v s s':Ga}(h:KdX lo X w ks v)(hO:OwnN Y l0 w ks0 s)(hs:∀ k,s.ownBlock=some k→k∈X∨k<lo)(hg:w.grownBy w' s.ownBlock)(hat:s'.ownBlock=s.ownBlock∨s'.ownBlock=some w.heap.size) :
 KdX lo (w.heap.size::X) w' ks v∧∀ k,s'.ownBlock=some k→k∈w.heap.size::X∨k<lo:=by
 refine ⟨Wk h (fun k hk hlt=>⟨⟨hk.1.1,fun hm=>?_⟩,hk.2.same (hg.block k hlt fun e=>?_)⟩) fun k hk hlt=>hg.block k hlt fun e=>?_,fun k hk=>?_⟩;rcases Aja.1 hm with q|q;omega;exact hk.1.2 q;rcases hs k e.symm with q|q;exact hk.1.2 q;have:=hk.1.1;omega;rcases hs k e.symm with q|q;exact hk.1.2 q;have:=hk.1.1;omega;rcases hat with q|q;rw [q] at hk;exact (hs k hk).imp (Ana _) id;rw [hk] at q;injection q with q;subst q;exact .inl List.mem_cons_self
/-! the declarations of a file -/
section
variable {F n:Nd} {S:CSt}
theorem Yng(F n:Nd)(S:CSt)(k:Nat):Er S (strA F n S k):=by
 have h:=Xxd F n S 0 k;rw [Ara] at h;exact h
theorem Yog(F n:Nd)(S:CSt):Er S (dclR F n S).2:=by
 unfold dclR;refine Er.if2 (Yng F n S _) (Er.if2 (Xwd _ (Er.refl _)) (Er.if2 ?_ (Er.refl _)));have h:=Xyd (F:=F) (S:=funS0 S) (Za n 0) 0 (Za n 0).kids.length;rw [Ara] at h;have h0:Er S (parA F (Za n 0) (funS0 S) 0).2:=Er.refl S;exact (h0.trans h).trans Vmf
theorem Qfc(F:Nd)(S:CSt)(i:Nat):∀ k,Er (dclA F S i).2 (dclA F S (i+k)).2
 | 0=>Er.refl _
 | k+1=>(Qfc F S i k).trans (Yog F _ _)
theorem Uud(F:Nd)(S:CSt):Er S (mainS F S):=by
 unfold mainS;exact Er.if1 ((Er.refl S).fail _ _) (Er.if1 ((Er.refl S).fail _ _) (Er.refl S))
theorem Zmd(F:Nd)(S:CSt):∀ i,(dclA F S i).1.length=i
 | 0=>rfl
 | i+1=>by
  show ((dclA F S i).1++[_]).length=_;rw [Aga,Zmd F S i];rfl
end
theorem Zpc{F:Nd}(h:∀ j,j<F.kids.length→dupAt F j=false):refS F=mainS F (dclA F rs0 F.kids.length).2∧refA F=annT F (dclA F rs0 F.kids.length).1 ty0:=by
 unfold refS refA;rw [Ybe h];exact ⟨rfl,rfl⟩
theorem Vsf{F:Nd}(h:∀ j,j<F.kids.length→dupAt F j=false){i:Nat}(hi:i<F.kids.length):Er (dclR F (Za F i) (dclA F rs0 i).2).2 (refS F):=by
 rw [(Zpc h).1];have k:=Qfc F rs0 (i+1) (F.kids.length-(i+1));rw [show i+1+(F.kids.length-(i+1))=F.kids.length by omega] at k;have e:(dclA F rs0 (i+1)).2=(dclR F (Za F i) (dclA F rs0 i).2).2:=rfl;rw [e] at k;exact k.trans (Uud F _)
theorem Ypg(F:Nd):Er (namA F rs0 F.kids.length) (refS F):=by
 unfold refS;have k:=Qfc F (namA F rs0 F.kids.length) 0 F.kids.length;rw [Ara] at k;have h0:Er (namA F rs0 F.kids.length) (dclA F (namA F rs0 F.kids.length) 0).2:=Er.refl _;exact (h0.trans k).trans (Uud F _)
theorem Wme{F:Nd}(hv:validB F=true)(h:(refS F).ee≠0):refCheck F=(nd0,(refS F).ea,(refS F).ee):=by
 unfold refCheck;rw [hv,Jxg h];rfl
theorem Uvd{F:Nd}(hv:validB F=true)(h:(refS F).ee=0):refCheck F=(refA F,0,0):=by
 unfold refCheck;rw [hv,Jyg h];rfl
theorem Wcd{F:Nd}(hv:validB F=false):refCheck F=(nd0,0,1):=by
 unfold refCheck;rw [hv];rfl
def RChk(F:Nd)(w0:Aa)(r:Ga)(w':Aa):Prop:=(∃ u,r = .tuple #[u,.int .i64 (refCheck F).2.1,.int .i64 (refCheck F).2.2]∧RetN (refCheck F).1 w0.heap.size u w')∧G w0 w'
theorem Wdd{n:Nat}{σ:List Ent}{F:Nd}{w0 w1:Aa}{b2 b3 b4:Nat}{u:Nd}{s x y:Ga}{ch:List Da}{fn:Func}{T:CSt}(hfn:fn.results = #[.cell 2 26,.cell 3 3,.cell 4 30])(hv:validB F=true)
 (h2:look σ 2=some (True,.pointer (some ⟨b2,0,none⟩))) (h3:look σ 3=some (True,.pointer (some ⟨b3,0,none⟩))) (h4:look σ 4=some (True,.pointer (some ⟨b4,0,none⟩))) (B2:Blk w1 b2 26 (ndCells u s)) (B3:Blk w1 b3 3 [x]) (B4:Blk w1 b4 30 [y])
 (hb:w0.heap.size≤b2∧w0.heap.size≤b3∧w0.heap.size≤b4) (g:G w0 w1) (hz:ch=[failE T.ea T.ee]∧T.ee≠0) (hE:Er T (refS F)) :
 ∀ a,Kn n σ a→ZD PP fn (RChk F w0) (fun _ _=>False) ch [fnD 28 #[.pointer (some ⟨b2,0,none⟩),.pointer (some ⟨b3,0,none⟩),.pointer (some ⟨b4,0,none⟩)] #[]] a w1:=by
 obtain ⟨rfl,hne⟩:=hz;obtain ⟨e1,e2⟩:=hE hne;have hr:=Wme hv (by rw [e1];exact hne);refine Ulg Zfb J (Jbe B2 B3 B4) fun v w2 hv2=>?_;obtain ⟨_,C2,C3,C4,g2⟩:=hv2;refine Ymc (Wza (rs:=[.cell 2 26,.cell 3 3,.cell 4 30]) (vs:=[_,_,_]) hfn J (Yoa h2 Zf J (C2.row) (Xvb h3 Yf (C3.at_ J) (Xvb h4 Yta (C4.at_ J) Uc))) J ?_);refine ⟨⟨_,by rw [hr,e1,e2],by rw [hr];exact Xh (t:=nd0) J (Yyb _ _)⟩,?_⟩;exact ⟨g2.os.trans g.os,g2.tape.trans g.tape,g2.output.trans g.output,Apa g.size g2.size,fun k hk=>(g2.block k (Aea hk g.size) (by intro hm;simp only [Aja,Aya,or_false] at hm;omega)).trans (g.block hk)⟩
theorem Wne{n:Nat}{σ:List Ent}{F:Nd}{w0 w1:Aa}{b2 b3 b4:Nat}{u:Nd}{s x y:Ga}{ch:List Da}{fn:Func}{T:CSt}(hfn:fn.results = #[.cell 2 26,.cell 3 3,.cell 4 30])(hv:validB F=true)
 (h2:look σ 2=some (True,.pointer (some ⟨b2,0,none⟩))) (h3:look σ 3=some (True,.pointer (some ⟨b3,0,none⟩))) (h4:look σ 4=some (True,.pointer (some ⟨b4,0,none⟩))) (B2:Blk w1 b2 26 (ndCells u s)) (B3:Blk w1 b3 3 [x]) (B4:Blk w1 b4 30 [y])
 (hb:w0.heap.size≤b2∧w0.heap.size≤b3∧w0.heap.size≤b4) (g:G w0 w1) (hz:ch=[failE T.ea T.ee]∧T.ee≠0) (hE:Er T (refS F)) :
 ∀ a,Kn n σ a→∀ a',Agr n [2,3,4] a a'→ZD PP fn (RChk F w0) (fun _ _=>False) ch [fnD 28 #[.pointer (some ⟨b2,0,none⟩),.pointer (some ⟨b3,0,none⟩),.pointer (some ⟨b4,0,none⟩)] #[]] a' w1:=fun a ha a' hA =>
 Wdd (σ:=[(2,True,.pointer (some ⟨b2,0,none⟩)),(3,True,.pointer (some ⟨b3,0,none⟩)),(4,True,.pointer (some ⟨b4,0,none⟩))]) hfn hv rfl rfl rfl B2 B3 B4 hb g hz hE a' (hA.kn ha (fun t c v hl=>by
 unfold look at hl;cases e2:Aaa 2 t;rw [e2,Zeh] at hl;unfold look at hl;cases e3:Aaa 3 t;rw [e3,Zeh] at hl;unfold look at hl;cases e4:Aaa 4 t;rw [e4,Zeh] at hl;cases hl;rw [e4,Zfh] at hl;rw [← Aoa e4];exact h4.trans hl;rw [e3,Zfh] at hl;rw [← Aoa e3];exact h3.trans hl;rw [e2,Zfh] at hl;rw [← Aoa e2];exact h2.trans hl) fun t c v hl=>by
 unfold look at hl;cases e2:Aaa 2 t;rw [e2,Zeh] at hl;unfold look at hl;cases e3:Aaa 3 t;rw [e3,Zeh] at hl;unfold look at hl;cases e4:Aaa 4 t;rw [e4,Zeh] at hl;cases hl;rw [← Aoa e4];decide;rw [← Aoa e3];decide;rw [← Aoa e2];decide)
theorem Uwd{M:Nat→Nat→Bool}{n0:Nat}{w w':Aa}(g:GT M n0 w w')(h:n0=w.heap.size):G w w':=⟨g.os,g.tape,g.output,g.size,fun k hk=>g.block k hk (.inl O)⟩
theorem gg_t{M:Nat→Nat→Bool}{n0:Nat}{w0 w w':Aa}(h:G w0 w)(g:GT M n0 w w')(hn:n0=w0.heap.size):G w0 w':=⟨g.os.trans h.os,g.tape.trans h.tape,g.output.trans h.output,Apa h.size g.size,fun k hk=>(g.block k (Aea hk h.size) (.inl O)).trans (h.block hk)⟩
theorem Wdg{w0 w w':Aa}{ms mg mn mf:Nat}(h:G w0 w)(g:GV (EnV ms mg mn mf) w w')(hm:w0.heap.size≤ms∧w0.heap.size≤mg∧w0.heap.size≤mn∧w0.heap.size≤mf):G w0 w' :=
 ⟨g.os.trans h.os,g.tape.trans h.tape,g.output.trans h.output,Apa h.size (GV.size g),fun k hk=>(g.block k (Aea hk h.size) (by unfold EnV;omega)).trans (h.block hk)⟩
theorem Blk.gx{w w':Aa}{X:List Nat}{n0 b:Nat}{e:Ba}{l:List Ga}(h:Blk w b e l)(g:GT (mutC X) n0 w w')(hb:b∈X):Blk w' b e l:=(g.block b h.lt (.inr fun ⟨cs,f,fr,_,hm⟩=>by
 unfold mutC at hm;rw [Jyg hb] at hm;simp at hm)).trans h
theorem Uxd{F t:Nd}(Z:List Nat)(HF:FW F)(hk:t.kind=2∨t.kind=6∨t.kind=4)(hp:permF t=true)(hct:count t≤1000000){n0 b m0:Nat}{TB X:List Nat}{S:CSt}{w:Aa}{v:Ga}(h:PX F n0 b TB X w)(he:S.ee=0)(hkw:Kd w (fun k=>k<n0) t.kids v)(hZ:∀ j∈Z,j<w.heap.size)(hm:m0≤w.heap.size) :
 RetP PP 31 #[.pointer (some ⟨b,0,none⟩),ndV t v] w (fun r w'=>(∃ p c,r=ndV (dclR F t S).1 (.slice p (dclR F t S).1.kids.length c)∧m0≤w.heap.size∧KdX w.heap.size Z w' (dclR F t S).1.kids (.slice p (dclR F t S).1.kids.length c))∧(dclR F t S).2.ee=0∧PX F n0 b TB X w'∧GT (mutC X) n0 w w') (BadD n0 X (dclR F t S).2 w) :=
 (Vof HF hk hp hct h he hkw).mono (fun r w' hr=>by
 obtain ⟨h0,⟨p,c,e,k⟩,h1,h2⟩:=hr;exact ⟨⟨p,c,e,hm,KdN.x k hZ⟩,h0,h1,h2⟩) fun _ _ h=>h
theorem Uyd{X:List Nat}{m0:Nat}{w w':Aa}{ks:List Nd}{v s:Ga}(hO:∀ k,s.ownBlock=some k→k<w.heap.size)(k:KdX w.heap.size X w' ks v)(hm:m0≤w.heap.size):∃ lo,(∀ k,s.ownBlock=some k→k<lo)∧m0≤lo∧KdX lo X w' ks v:=⟨_,hO,hm,k⟩
theorem PB.keepc{F:Nd}{n0 b:Nat}{TB X:List Nat}{fv:Ga}{ms mg mn mf:Nat}{pv:Nat→Ga}{sv cv rv:Ga}{w w':Aa}(h:PB F n0 b TB X fv ms mg mn mf pv sv cv rv w){j:Nat}{e:Ba}{cs0:Array Ga}{fr0:Nat×Nat}(hg:w.grownBy w' (some j))(hB:w.heap[j]? = some (.cells cs0 e fr0))(hj:n0≤j)(he:typC e=false∨(j∈X∧j∉TB)):PB F n0 b TB X fv ms mg mn mf pv sv cv rv w':=by
 have hne:j≠b:=fun q=>by
  subst q;rcases he with he|he;have:=h.B;unfold Blk at this;rw [this] at hB;injection hB with hB;injection hB with _ hB;subst hB;exact Aqa (show true=false from he);exact h.bx he.1
 have hk:∀ k,k<w.heap.size→k≠j→w'.heap[k]? = w.heap[k]?:=fun k hk hn=>hg.block k hk fun e=>hn (by injection e)
 have m:∀ {k es},MapS w k es→MapS w' k es:=fun hm=>hm.keep hg fun q=>by
  injection q with q;subst q;obtain ⟨ms,c,hb,_⟩:=hm;rw [hb] at hB;injection hB with hB;cases hB
 have hL:Below n0 w w':=⟨hg.os,hg.tape,hg.output,hg.size,fun k hk=>hg.block k (Aea hk h.L.hn) fun e=>by injection e with e;omega⟩;refine ⟨h.B.keep hg fun e=>hne (by injection e with e;exact e.symm),h.hb,h.kF.keep hg fun k hk _ e=>by injection e with e;omega,h.hF,⟨m h.T.hs,m h.T.hg,m h.T.hn,m h.T.hf,fun s hs=>(h.T.hp s hs).same fun k hkT hlt ⟨cs,fr,hc⟩=>hg.block k hlt fun e=>?_⟩,h.L.below hL,h.tx,fun i hi=>Aea (h.xl i hi) hg.size,h.bx⟩;injection e with e;subst e;rcases he with he|he;rw [hc] at hB;injection hB with hB;injection hB with _ hB;subst hB;exact Aqa (show true=false from he);exact he.2 hkT
theorem PX.keepc{F:Nd}{n0 b:Nat}{TB X:List Nat}{w w':Aa}(h:PX F n0 b TB X w){j:Nat}{e:Ba}{cs0:Array Ga}{fr0:Nat×Nat}(hg:w.grownBy w' (some j))(hB:w.heap[j]? = some (.cells cs0 e fr0))(hj:n0≤j)(he:typC e=false∨(j∈X∧j∉TB)):PX F n0 b TB X w':=by obtain ⟨_,_,_,_,_,_,_,_,_,h⟩:=h;exact (h.keepc hg hB hj he).px
theorem PX.keepO{F:Nd}{n0 b lo:Nat}{TB X Y:List Nat}{w w':Aa}{ks:List Nd}{s:Ga}(h:PX F n0 b TB X w)(hg:w.grownBy w' s.ownBlock)(hO:OwnN Y lo w ks s)(hl:n0≤lo):PX F n0 b TB X w':=by
 cases hs:s.ownBlock with
 | none=>rw [hs] at hg;exact h.grow ⟨hg.os,hg.tape,hg.output,hg.size,fun k hk=>hg.block k hk (fun e=>nomatch e)⟩
 | some k =>
  rw [hs] at hg;obtain ⟨cs,fr,hc⟩:=hO.nd k hs;exact h.keepc hg hc (Apa hl (hO.ge k hs)) (.inl rfl)
theorem Blk.gm{w w':Aa}{b:Nat}{e:Ba}{l:List Ga}{ms mg mn mf:Nat}{e1 e2 e3 e4:List (List UInt8×Ga)}(h:Blk w b e l)(g:GV (EnV ms mg mn mf) w w')(s1:MapS w ms e1)(s2:MapS w mg e2)(s3:MapS w mn e3)(s4:MapS w mf e4):Blk w' b e l :=
 Blk.gb h g fun hv=>by
 rcases hv with q|q|q|q;exact s1.nblk h q.symm;exact s2.nblk h q.symm;exact s3.nblk h q.symm;exact s4.nblk h q.symm
theorem er_m5{F:Nd}{S:CSt}(he:S.ee=0)(h:fncB F [109,97,105,110]=false):Er { S with ea:=0,ee:=5 } (mainS F S):=by
 unfold mainS;unfold fncB at h;rw [Jyg (by have:=Zdh h;omega),Zfh];rw [show failS 0 5 S = { S with ea:=0,ee:=5 } from Wja he 0 5];exact Er.refl _
theorem er_r5{F:Nd}(hd:∀ j,j<F.kids.length→dupAt F j=false)(he:(dclA F rs0 F.kids.length).2.ee=0)(h:fncB F [109,97,105,110]=false):Er { (dclA F rs0 F.kids.length).2 with ea:=0,ee:=5 } (refS F):=by
 rw [(Zpc hd).1];exact er_m5 he h
theorem Vtf{F:Nd}(HR:FRes F)(h:fncB F [109,97,105,110]=true)(S:CSt):mainS F S=bif (decide (0<((parT (findD F 4 [109,97,105,110]).1).length:Int)) || !tyEqB (resT (findD F 4 [109,97,105,110]).1) ty0) then failS (findD F 4 [109,97,105,110]).1.pos 7 S else S:=by
 unfold fncB at h;unfold mainS;rw [Jxg (by have:=Zch h;omega),Zeh,HR _ (Zch h),Yab]
theorem Woe{F:Nd}{TB:List Nat}{ms mg mn mf:Nat}{pv:Nat→Ga}{w:Aa}{s:List UInt8}{p:Option Addr}{m c:Nat}(T:Tab F TB ms mg mn mf pv w)(h:fncB F s=true)(hp:pv (findD F 4 s).2.toNat = .slice p m c):m=(parT (findD F 4 s).1).length:=by
 obtain ⟨p',c',e,_⟩:=T.hp s (Zch h);rw [hp] at e;injection e
theorem Yqg{F:Nd}(hd:∀ j,j<F.kids.length→dupAt F j=false){s:List UInt8}(h:fncB F s=true){i:Nat}(hi:i<F.kids.length)(ht:(Za F i).text=s):(findD F 4 s).1=Za F i:=by
 obtain ⟨j,hj,k4,e4,e⟩:=Qda (show 0≤(findD F 4 s).2 from Zch h);rcases Nat.lt_trichotomy i j with q|q|q;have:=Wad q hj (ht.trans e4.symm);rw [hd j hj] at this;cases this;subst q;exact e;have:=Wad q hi (e4.trans ht.symm);rw [hd i hi] at this;cases this
theorem er_r7{F:Nd}(hd:∀ j,j<F.kids.length→dupAt F j=false)(he:(dclA F rs0 F.kids.length).2.ee=0)(HR:FRes F)(h:fncB F [109,97,105,110]=true)(h3:(decide (0<((parT (findD F 4 [109,97,105,110]).1).length:Int)) || !tyEqB (resT (findD F 4 [109,97,105,110]).1) ty0)=true){i:Nat}(hi:i<F.kids.length)(ht:(Za F i).kind=4∧(Za F i).text=[109,97,105,110]):Er { (dclA F rs0 F.kids.length).2 with ea:=(Za F i).pos,ee:=7 } (refS F):=by
 rw [(Zpc hd).1,Vtf HR h,h3,Zfh,Yqg hd h hi ht.2];rw [show failS (Za F i).pos 7 (dclA F rs0 F.kids.length).2 = { (dclA F rs0 F.kids.length).2 with ea:=(Za F i).pos,ee:=7 } from Wja he _ _];exact Er.refl _
theorem Umg{F:Nd}{i:Nat}(h:(!decide ((Za F i).kind=4) || !decide ((Za F i).text=[109,97,105,110]))=false):(Za F i).kind=4∧(Za F i).text=[109,97,105,110]:=by
 simpa using h
theorem Ung{F:Nd}{i:Nat}(h:∀ j,j<i→¬ ((Za F j).kind=4∧(Za F j).text=[109,97,105,110]))(k:(!decide ((Za F i).kind=4) || !decide ((Za F i).text=[109,97,105,110]))=true):∀ j,j<i+1→¬ ((Za F j).kind=4∧(Za F j).text=[109,97,105,110]):=fun j hj q=>by
 by_cases e:j=i;subst e;rw [Jyg q.1,Jyg q.2] at k;cases k;exact h j O q
theorem Yhe(F:Nd)(v:Ga)(D:Nat→Prop)(w:Aa)(hkD:Kd w D F.kids v)(hcn:count F≤1000000)(hL0:LaidW w.heap.size w):RetP PP 13 #[ndV F v] w (RChk F w) fun _ _=>False:=by
 obtain ⟨n0,hn0⟩:∃ n,n=w.heap.size:=⟨_,rfl⟩;have hkw:Kd w (fun k=>k<n0) F.kids v:=Kd.mono hkD fun k _ hlt=>by rw [hn0];exact hlt
 have hk0:=hkw;have hL:LaidW n0 w:=by rw [hn0];exact hL0
 have hLw:=hL;obtain ⟨p,c,rfl,_⟩:=id hkw;have hln:=Wu F;have g:=GT.refl (mutC []) n0 w;refine Wib (m:=86) Tryz.func13 J J [(0,True,_)] (Zb J (Zq _)) ?_;refine Wf fun K1 hK1=>?_;refine Xz [1,1,1,1] ?_;refine Zqa J (Zc J) J ?_;intro b1 w1 N1;have l1:=Wc N1 g.size;have g:=gtg g N1.g;have hL:=hL.grow (N1.g);have hk0:=hk0.grow (N1.g);have B1:=N1.blk;refine Yt J Zp J ?_;intro b2 w2 N2;have x2_1:=N2.ne B1;have l2:=Wc N2 g.size;have g:=gtg g N2.g;replace B1:=B1.grow (N2.g);have hL:=hL.grow (N2.g);have hk0:=hk0.grow (N2.g);have B2:=N2.blk;refine Yt J Yec J ?_;intro b3 w3 N3;have x3_1:=N3.ne B1;have x3_2:=N3.ne B2;have l3:=Wc N3 g.size;have g:=gtg g N3.g;replace B1:=B1.grow (N3.g);replace B2:=B2.grow (N3.g);have hL:=hL.grow (N3.g);have hk0:=hk0.grow (N3.g);have B3:=N3.blk;refine Yt J Jmb J ?_;intro b4 w4 N4;have x4_1:=N4.ne B1;have x4_2:=N4.ne B2;have x4_3:=N4.ne B3;have l4:=Wc N4 g.size;have g:=gtg g N4.g;replace B1:=B1.grow (N4.g);replace B2:=B2.grow (N4.g);replace B3:=B3.grow (N4.g);have hL:=hL.grow (N4.g);have hk0:=hk0.grow (N4.g);have B4:=N4.blk;refine Vh [(1,_,_),(2,_,_),(3,_,_),(4,_,_)] (Zb J (Zb J (Zb J (Zb J (Zq _))))) ?_;refine Ze (hK1 _ _ _ ?_);refine Wf fun K2 hK2=>?_;refine Wf fun K3 hK3=>?_;refine Xz [0,1,3] ?_;refine Qb J (Zo Zf (Zc J) J (fun _=>B1.row)) ?_;refine Xe J (Zy Wcc Wz (Yn (Zc J) (Xw)) J) (Qce F _ _ _ hL.hL hL.hb hk0 hcn) ?_;rintro v13 w13 ⟨rfl,g13⟩;refine ⟨fun _=>g13,?_⟩;have g:=gtg g g13;replace B1:=B1.grow (g13);replace B2:=B2.grow (g13);replace B3:=B3.grow (g13);replace B4:=B4.grow (g13);have hL:=hL.grow (g13);have hk0:=hk0.grow (g13);refine Zz J (fun _=>Wzc (Zc J)) ?_
 refine Vh [(1,_,_),(2,_,_),(3,_,_),(4,_,_),(14,_,_)] (Zb J (Zb J (Zb J (Zb J (Zb J (Zq _)))))) ?_;refine Ze (hK3 _ _ _ ?_);refine Whb (Zc J) (fun h1=>?_) (fun h1=>?_)
 ·have hv:validB F=false:=by simpa using h1
  refine Wf fun K4 hK4=>?_;refine Xz [3,2,2,2] ?_;refine Vzb Zp Jka pq0 J J ?_;refine Xq J Yk (Zc J) (Zc J) J J B2 J J ?_;intro wS1 hgS1 hzS1;clear B2;intro B2;replace B1:=B1.keep hgS1 (by intro h;injection h with h;first|exact x2_1 h.symm|exact x1_2 h|omega);replace B3:=B3.keep hgS1 (by intro h;injection h with h;first|exact x2_3 h.symm|exact x3_2 h|omega);replace B4:=B4.keep hgS1 (by intro h;injection h with h;first|exact x2_4 h.symm|exact x4_2 h|omega);have g:=Yb g hgS1 O;refine Xq J Vca (Zc J) Xv J J B3 J J ?_;intro wS2 hgS2 hzS2;clear B3;intro B3;replace B1:=B1.keep hgS2 (by intro h;injection h with h;first|exact x3_1 h.symm|exact x1_3 h|omega);replace B2:=B2.keep hgS2 (by intro h;injection h with h;first|exact x3_2 h.symm|exact x2_3 h|omega);replace B4:=B4.keep hgS2 (by intro h;injection h with h;first|exact x3_4 h.symm|exact x4_3 h|omega);have g:=Yb g hgS2 O;refine Xq J Uga (Zc J) Xv J J B4 J J ?_;intro wS3 hgS3 hzS3;clear B4;intro B4;replace B1:=B1.keep hgS3 (by intro h;injection h with h;first|exact x4_1 h.symm|exact x1_4 h|omega);replace B2:=B2.keep hgS3 (by intro h;injection h with h;first|exact x4_2 h.symm|exact x2_4 h|omega);replace B3:=B3.keep hgS3 (by intro h;injection h with h;first|exact x4_3 h.symm|exact x3_4 h|omega);have g:=Yb g hgS3 O;refine Vh [(1,_,_),(2,_,_),(3,_,_),(4,_,_)] (Zb J (Zb J (Zb J (Zb J (Zq _))))) ?_;refine Ze (hK4 _ _ _ ?_);refine Jyb (?_);skip
  refine Ymc (Wza (rs:=[.cell 2 26,.cell 3 3,.cell 4 30]) (vs:=[_,_,_]) J J (Yoa J Zf J (by first|exact B1.row|exact B2.row|exact B3.row|exact B4.row) (Xvb J Yf (by first|exact B1.at_ J|exact B2.at_ J|exact B3.at_ J|exact B4.at_ J) (Xvb J Yta (by first|exact B1.at_ J|exact B2.at_ J|exact B3.at_ J|exact B4.at_ J) (Uc)))) J ?_);exact ⟨⟨_,by rw [Wcd hv],by rw [Wcd hv];exact Xh (t:=nd0) rfl (Yyb _ _)⟩,Uwd g hn0⟩
 have hv:validB F=true:=by simpa using h1
 refine Jxb (hK2 _ _ _ ?_);refine Uta [(1,_,_),(2,_,_),(3,_,_),(4,_,_)] (Zb J (Zb J (Zb J (Zb J (Zq _))))) ?_;refine Wf fun K5 hK5=>?_;refine Qua (k:=1) [3,2] J J J ?_;refine Zz J (fun _=>Jfb (Xw) (Yn (Zc J) (Yn (Zc J) (Yn (Zc J) (Xw))))) ?_;refine Ze (Yod (Voc (Zc J) (Xw)) (hK5 _ _ _ ?_));refine Uta [(1,_,_),(2,_,_),(3,_,_),(4,_,_)] (Zb J (Zb J (Zb J (Zb J (Zq _))))) ?_;refine Wf fun K6 hK6=>?_;refine Xz [0,1,1,1,1,3,1,3] ?_;refine Qb J (Zo Zf (Zc J) J (fun _=>B1.row)) ?_;refine Qaa J ?_;intro m18 w18 em18 g18 z18 s18;have lm18:w.heap.size≤m18:=by have:=g.size;omega
 have g:=g.trans (GT.of_g g18);have B1:=B1.grow g18;have B2:=B2.grow g18;have B3:=B3.grow g18;have B4:=B4.grow g18;have hL:=hL.grow g18;have hk0:=hk0.grow g18;refine Qaa J ?_;intro m19 w19 em19 g19 z19 s19;have lm19:w.heap.size≤m19:=by have:=g.size;omega
 have g:=g.trans (GT.of_g g19);have B1:=B1.grow g19;have B2:=B2.grow g19;have B3:=B3.grow g19;have B4:=B4.grow g19;have hL:=hL.grow g19;have hk0:=hk0.grow g19;have s18:=s18.grow g19;refine Qaa J ?_;intro m20 w20 em20 g20 z20 s20;have lm20:w.heap.size≤m20:=by have:=g.size;omega
 have g:=g.trans (GT.of_g g20);have B1:=B1.grow g20;have B2:=B2.grow g20;have B3:=B3.grow g20;have B4:=B4.grow g20;have hL:=hL.grow g20;have hk0:=hk0.grow g20;have s18:=s18.grow g20;have s19:=s19.grow g20;refine Qaa J ?_;intro m21 w21 em21 g21 z21 s21;have lm21:w.heap.size≤m21:=by have:=g.size;omega
 have g:=g.trans (GT.of_g g21);have B1:=B1.grow g21;have B2:=B2.grow g21;have B3:=B3.grow g21;have B4:=B4.grow g21;have hL:=hL.grow g21;have hk0:=hk0.grow g21;have s18:=s18.grow g21;have s19:=s19.grow g21;have s20:=s20.grow g21;refine Vzb Zmb Znb (pqc J (pqc J (pqc J (pqc J (pqc J pq0))))) J J ?_;refine Zqa J (Zc J) J ?_;intro b23 w23 N23;have x23_1:=N23.ne B1;have x23_2:=N23.ne B2;have x23_3:=N23.ne B3;have x23_4:=N23.ne B4;have l23:=Wc N23 g.size;have g:=gtg g N23.g;replace B1:=B1.grow (N23.g);replace B2:=B2.grow (N23.g);replace B3:=B3.grow (N23.g);replace B4:=B4.grow (N23.g);have hL:=hL.grow (N23.g);have hk0:=hk0.grow (N23.g);have s18:=s18.grow (N23.g);have s19:=s19.grow (N23.g);have s20:=s20.grow (N23.g);have s21:=s21.grow (N23.g);have B23:=N23.blk;skip;refine Zz J (fun _=>Ji (Zc J)) ?_;refine Vh [(1,_,_),(2,_,_),(3,_,_),(4,_,_),(5,_,_)] (Zb J (Zb J (Zb J (Zb J (Zb J (Zq _)))))) ?_;refine Ze (hK6 _ _ _ ?_);refine Wf fun K7 hK7=>?_;refine Xz [3,2] ?_;refine Zz J (fun _=>Zw (Zc J)) ?_;refine Yda J (Zy Ylb Wz (Yn (Zc J) (Xw)) J) (Qxe hv hcn O B23 hk0 hL s18 s19 s20 s21 ⟨⟨O,O,O⟩,⟨O,O⟩,O⟩ ⟨O,O,O,O⟩) ((fun ch w' hz=>Wdd (u:=nd0) (s:=.slice none 0 0) J hv J J J (B2.gm hz.2.2 s18 s19 s20 s21) (B3.gm hz.2.2 s18 s19 s20 s21) (B4.gm hz.2.2 s18 s19 s20 s21) ⟨O,O,O⟩ (Wdg (Uwd g hn0) hz.2.2 ⟨O,O,O,O⟩) ⟨hz.1,hz.2.1⟩ (Ypg F))) ?_;rintro v25 w25 ⟨rfl,hdu,⟨m2,pv,TB,hE⟩,g25⟩;refine ⟨fun hc=>absurd hc Od,?_⟩;have hg0:G w w25:=Wdg (Uwd g hn0) g25 ⟨O,O,O,O⟩;have B1:=B1.gm g25 s18 s19 s20 s21
 have B2:=B2.gm g25 s18 s19 s20 s21;have B3:=B3.gm g25 s18 s19 s20 s21;have B4:=B4.gm g25 s18 s19 s20 s21;have hL:=hLw.grow hg0;have hk25:=hkw.grow hg0;have hk0:=hk25;have hlt3:=B3.lt
 have h:PX F n0 b23 TB (b3::TB) w25:=⟨_,_,_,_,_,pv,_,_,_,hE.B,O,hk0,hcn,hE.tab,hL,fun j hj=>Ana _ hj,fun j hj=>(by
  rcases Aja.1 hj with q|q
  · omega
  · exact (hE.tb j q).2),fun hm=>(by
  rcases Aja.1 hm with q|q
  · omega
  · have:=(hE.tb b23 q).1;have:=B23.lt;omega)⟩
 have HF:=fw_of hv hdu;have hTB:∀ j∈TB,b23<j∧j<w25.heap.size:=fun j hj=>⟨by have:=(hE.tb j hj).1;have:=B23.lt;omega,(hE.tb j hj).2⟩;obtain ⟨h1F,hpF⟩:=Vab hv;have hdc:=Xjc h1F hpF;have g:GT (mutC (b3::TB)) n0 w w25:=GT.of_g hg0;refine Vh [(1,_,_),(2,_,_),(3,_,_),(4,_,_),(5,_,_)] (Zb J (Zb J (Zb J (Zb J (Zb J (Zq _)))))) ?_;refine Ze (hK7 _ _ _ ?_);refine Wf fun K8 hK8=>?_;refine Xz [0,1,2] ?_;refine Qb J (Zo Zf (Zc J) J (fun _=>B1.row)) ?_;refine Xe J (Zy Jya Wz (Yn (Zc J) (Xw)) J) (Jr F _ _ _) ?_;rintro v27 w27 ⟨rfl,g27⟩;refine ⟨fun _=>g27,?_⟩;have g:=gtg g g27;replace B1:=B1.grow (g27);replace B2:=B2.grow (g27);replace B3:=B3.grow (g27);replace B4:=B4.grow (g27);have hk0:=hk0.grow (g27);have h:=h.grow (g27);refine Xq J Yk (Zc J) (Zc J) J J B2 J J ?_;intro wS4 hgS4 hzS4;have C2:=B2;clear B2;intro B2;replace B1:=B1.keep hgS4 (by intro h;injection h with h;first|exact x2_1 h.symm|exact x1_2 h|omega);replace B3:=B3.keep hgS4 (by intro h;injection h with h;first|exact x2_3 h.symm|exact x3_2 h|omega);replace B4:=B4.keep hgS4 (by intro h;injection h with h;first|exact x2_4 h.symm|exact x4_2 h|omega);have g:=Yb g hgS4 O;have h:=h.keep hgS4 C2 O (by first|exact .inl rfl|exact .inr ⟨by simp,fun hm=>by have:=hTB _ hm;omega⟩);have hk0:=hk0.keep hgS4 (fun k hk _ e=>by injection e with e;omega);refine Vh [(1,_,_),(2,_,_),(3,_,_),(4,_,_),(5,_,_)] (Zb J (Zb J (Zb J (Zb J (Zb J (Zq _)))))) ?_;refine Ze (hK8 _ _ _ ?_);refine Wf fun K9 hK9=>?_;refine Wf fun K10 hK10=>?_;refine Xz [3,0,3,3] ?_;refine Zz J (fun _=>Zh Zg (Zc J)) ?_;refine Qb J (Zt Zi (Zc J) (fun _=>B1.at_ J)) ?_;refine Xva Zd J ?_
 refine Zz J (fun _=>Zw Xv) ?_;refine Vh [(1,_,_),(2,_,_),(3,_,_),(4,_,_),(5,_,_),(29,_,_),(30,_,_),(31,_,_)] (Zb J (Zb J (Zb J (Zb J (Zb J (Zb J (Zb J (Zb J (Zq _))))))))) ?_;refine Ze (hK10 _ _ _ ?_);refine Vnb ?_;refine Zkd (fun (i:Nat) u1=>(i≤F.kids.length∧(dclA F rs0 i).2.ee=0∧PX F n0 b23 TB (b3::TB) u1∧∃ s,Blk u1 b2 26 (ndCells (clnT F) s)∧OwnN [b1,b2,b3,b4] w.heap.size u1 (dclA F rs0 i).1 s)∧GT (mutC (b3::TB)) n0 w u1) _ [(1,True,_),(2,True,_),(3,True,_),(4,True,_),(5,True,_),(29,True,_),(30,True,_)] (fun (i:Nat)=>[(31,True,.int .i64 i)]) (fun (i:Nat)=>F.kids.length-i) (0) ⟨⟨Ama _,rfl,h,_,B2,Yxa _ _ _⟩,g⟩ (Zx (blkE B1) (Zx (blkE B3) (Zx (blkE B4) (Wa _)))) (Zb J (Zb J (Zb J (Zb J (Zb J (Zb J (Zb J (Zb J (Zq _))))))))) ?_;clear B1 B2 B3 B4;rintro i u1 ⟨hI1,gl1⟩ ⟨B1,B3,B4,_⟩;replace B1:Blk _ _ _ _:=B1;replace B3:Blk _ _ _ _:=B3;replace B4:Blk _ _ _ _:=B4;have g:=gl1;obtain ⟨hi,hei,h,s,B2,hO⟩:=hI1;obtain ⟨sa,sc,rfl⟩:=hO.slice;have hk0:=hkw.gt gl1 (fun k h=>h);have hlen:=Zmd F rs0 i;refine Wf fun K11 hK11=>?_;refine Xz [3] ?_;refine Zz J (fun _=>Jec (Zc J) (Zc J)) ?_;refine Ze (hK11 _ _ _ ?_);refine Uta [(1,_,_),(2,_,_),(3,_,_),(4,_,_),(5,_,_),(29,_,_),(30,_,_),(31,_,_),(32,_,_)] (Zb J (Zb J (Zb J (Zb J (Zb J (Zb J (Zb J (Zb J (Zb J (Zq _)))))))))) ?_;refine Wf fun K12 hK12=>?_;refine Whb (Zc J) (fun h2=>?_) (fun h2=>?_)
 ·replace h2:i<F.kids.length:=by simp only [Zah] at h2;omega
  obtain ⟨e0,p1,c1,hcell,hkid⟩:=Yr hk0 (i:=i) h2;obtain ⟨hdk,hdp⟩:=hdc _ (Jpa h2);have hcd:=Wi h2;refine Jxb (hK12 _ _ _ ?_);refine Uta [(1,_,_),(2,_,_),(3,_,_),(4,_,_),(5,_,_),(29,_,_),(30,_,_),(31,_,_)] (Zb J (Zb J (Zb J (Zb J (Zb J (Zb J (Zb J (Zb J (Zq _))))))))) ?_;refine Wf fun K13 hK13=>?_;refine Vnb ?_;refine Wf fun K14 hK14=>?_;refine Xz [3,0,1,2] ?_;refine Yja Zd J J O e0 ?_;refine Qb J (Zo Zf (Zc J) J (fun _=>hcell)) ?_;refine Yt J Zp J ?_;intro b7 w7 N7;have x7_1:=N7.ne B1;have x7_2:=N7.ne B2;have x7_3:=N7.ne B3;have x7_4:=N7.ne B4;have l7:=Wc N7 g.size;have hO:=hO.new N7;have g:=gtg g N7.g;replace B1:=B1.grow (N7.g);replace B2:=B2.grow (N7.g);replace B3:=B3.grow (N7.g);replace B4:=B4.grow (N7.g);have h:=h.grow (N7.g);have hkid:=hkid.grow (N7.g);have B7:=N7.blk;refine Xq J Yk (Zc J) (Zc J) J J B7 J J ?_;intro wS5 hgS5 hzS5;have C7:=B7;clear B7;intro B7;replace B1:=B1.keep hgS5 (by intro h;injection h with h;first|exact x7_1 h.symm|exact x1_7 h|omega);replace B2:=B2.keep hgS5 (by intro h;injection h with h;first|exact x7_2 h.symm|exact x2_7 h|omega);replace B3:=B3.keep hgS5 (by intro h;injection h with h;first|exact x7_3 h.symm|exact x3_7 h|omega);replace B4:=B4.keep hgS5 (by intro h;injection h with h;first|exact x7_4 h.symm|exact x4_7 h|omega);have g:=Yb g hgS5 O;have h:=h.keep hgS5 C7 O (by first|exact .inl rfl|exact .inr ⟨by simp,fun hm=>by have:=hTB _ hm;omega⟩);have hkid:=hkid.keep hgS5 (fun k hk _ e=>by injection e with e;omega);have hO:=hO.keep hgS5 Os
  refine Vh [(1,_,_),(2,_,_),(3,_,_),(4,_,_),(5,_,_),(7,_,_),(29,_,_),(30,_,_),(31,_,_)] (Zb J (Zb J (Zb J (Zb J (Zb J (Zb J (Zb J (Zb J (Zb J (Zq _)))))))))) ?_;refine Ze (hK14 _ _ _ ?_);refine Yee [2,3,4] (gtC (b3::TB) n0) [3,0,3,0,1,3,1,2,3,2,3,2] [0,1,0,0,12,3,0,127,255,511,255,1279] mix KR [0,1,2,3,4,5,6,7,8,9,10,11] J J ?_;have g:=gtd g;replace B1:=B1.grow (G.drew _);replace B2:=B2.grow (G.drew _);replace B3:=B3.grow (G.drew _);replace B4:=B4.grow (G.drew _);replace B7:=B7.grow (G.drew _);have s18:=s18.grow (G.drew _);have s19:=s19.grow (G.drew _);have s20:=s20.grow (G.drew _);have s21:=s21.grow (G.drew _);have h:=h.grow (G.drew _);have hkid:=hkid.grow (G.drew _);have hO:=hO.grow (G.drew _);refine Vva (L':=[1,2,3,4,5,6,7,8,9,10,11]) 0 J J J (fun _=>Zh Zg (Zc J)) ?_;refine Jgb (L':=[2,3,4,5,6,7,8,9,10,11]) 1 J J J (fun w1 hx=>Zt Zi (Zc J) (fun _=>(B2.gt hx J).at_ J)) ?_;refine Vva (L':=[3,4,5,6,7,8,9,10,11]) 2 J J J (fun _=>Zw (Zc J)) ?_;refine Jgb (L':=[4,5,6,7,8,9,10,11]) 3 J J J (fun w1 hx=>Zo Zf (Zc J) J (fun _=>(B7.gt hx J).row)) ?_;refine Vva (L':=[4,6,7,8,9,10,11]) 5 J J J (fun _=>Qha Zd (Zc J)) ?_;refine Yib 4 6 J J ?_ ?_
  ·refine Zl (L':=[6,7,8,9,10,11]) [3,0,3,0,2,3,1,2,3,2,3,2] rfl rfl rfl ?_
   have hOlt:=hO.lt;refine Yda J (Zy Zia Wz (Yn (Zc J) (Yn (Zc J) (Xw))) J) (Uxd [b1,b2,b3,b4,b7] HF hdk hdp O h hei hkid (Aha.2 ⟨B1.lt,Aha.2 ⟨B2.lt,Aha.2 ⟨B3.lt,Aha.2 ⟨B4.lt,Aha.2 ⟨B7.lt,Bga _⟩⟩⟩⟩⟩) g.size) ((fun ch w' hz=>Wne J hv J J J (B2.gt hz.2.2 J) (B3.gx hz.2.2 Os) (B4.gt hz.2.2 J) ⟨O,O,O⟩ (gg_t (Uwd g hn0) hz.2.2 hn0) ⟨hz.1,hz.2.1⟩ (Vsf hdu h2))) ?_;rintro v39 w39 ⟨⟨p39,c39,rfl,q39,k39⟩,he39,h,g39⟩;refine ⟨nw1,?_⟩;have g:=gtw g g39;try replace B1:=B1.gt g39 rfl
   try replace B2:=B2.gt g39 rfl
   try replace B4:=B4.gt g39 rfl
   try replace B7:=B7.gt g39 rfl
   have hO:=hO.gt g39 rfl;have B3:=B3.gx g39 Os;obtain ⟨lo39,hs0,hm39,k39⟩:=Uyd hOlt k39 q39;refine Zs (g39) ?_;refine Zm 6 J J ?_;refine Zl (L':=[7,8,9,10,11]) [3,0,3,0,2,3,1,2,3,2,3,2] J J J ?_;refine Ya _ J Zd Zp (pqc J pq0) J J ?_;intro b41 w41 N41;have x41_1:=N41.ne B1;have x41_2:=N41.ne B2;have x41_3:=N41.ne B3;have x41_4:=N41.ne B4;have x41_7:=N41.ne B7;have l41:=Wc N41 g.size;have hO:=hO.new N41;have k39:=k39.new N41;have g:=gtg g N41.g;replace B1:=B1.grow (N41.g);replace B2:=B2.grow (N41.g);replace B3:=B3.grow (N41.g);replace B4:=B4.grow (N41.g);replace B7:=B7.grow (N41.g);have h:=h.grow (N41.g);have B41:=N41.blk;refine Zs (GT.of_g (N41.g)) ?_;refine Zm 7 J J ?_;refine Ys (L':=[8,9,10,11]) [3,0,3,0,2,3,1,2,3,2,3,2] J J J J ?_;refine Wac J Zd Zp J (Zc J) hO (Zc J) J B41.row (Ve (t:=nd0) (v:=.slice none 0 0) (Vsc _ _)) (by simp;omega) (by have:=g.size;omega) ⟨by have:=g.size;omega,by have q1:=B1.lt;have q2:=B2.lt;have q3:=B3.lt;have q4:=B4.lt;have q7:=B7.lt;have q41:=B41.lt;simp;omega⟩ ?_;intro a42 c42 w42 hO2 hg42 hat42;have B1:=B1.keep hg42 (hO.ne Os);have B2:=B2.keep hg42 (hO.ne Os);have B3:=B3.keep hg42 (hO.ne Os);have B4:=B4.keep hg42 (hO.ne Os);have g:=Wx g hg42 (fun k hk=>hO.ge k hk);have h:=h.keepO hg42 hO O;try obtain ⟨k39,hs1⟩:=k39.app hO (fun k hk=>.inr (hs0 k hk)) hg42 hat42
   replace hO:=hO2;refine Xm ?_;have n7:=hO.ne (b:=b7) Os;have n41:=hO.ne (b:=b41) Os;have hO:=hO.sub (Y:=[b1,b2,b3,b4]) Oj;obtain ⟨g42,c43,l42,es,_⟩:=hO.setl;injection es with e1 _ e2;subst e1 e2;refine Vva (L':=[9,10,11]) 8 J J J (fun _=>Jva Zd (Zc J) (Zc J) (fun _=>by simp;omega)) ?_;refine Vva (L':=[9,11]) 10 J J J (fun _=>Zh Zg (Zc J)) ?_;refine Yib 9 11 J J ?_ ?_
   ·refine Ys (L':=[11]) [3,0,3,0,2,3,1,2,3,2,3,2] rfl rfl rfl rfl ?_
    obtain ⟨g43,c44,l43,es3,hBg,hfit,hgx,hgl,hset⟩:=hO.setl;injection es3 with e3 _ e4;injection e3 with e3;injection e3 with e3 _ _;subst e3 e4;have eo:0+((dclA F rs0 i).1.length:Int).toNat*9=(dclA F rs0 i).1.length*9:=by rw [Ava];omega
    refine Xb J Yk (Zc J) (Zc J) J J hBg (Nat.ble_eq.mpr (by rw [eo];exact hfit)) J ?_;intro wS hgS hzS BS;rw [eo] at BS;have hO:=hset hgS BS (Vo k39 hm39 Oj hs1);have B1:=B1.keep hgS (fun e=>hgx (by injection e with e;simp [← e]));have B2:=B2.keep hgS (fun e=>hgx (by injection e with e;simp [← e]));have B3:=B3.keep hgS (fun e=>hgx (by injection e with e;simp [← e]));have B4:=B4.keep hgS (fun e=>hgx (by injection e with e;simp [← e]));have g:=Yb g hgS hgl;have h:=h.keep hgS hBg O (.inl rfl);refine Xm ?_;refine Zm 11 J J ?_;refine Ys (L':=[]) [3,0,3,0,2,3,1,2,3,2,3,2] J J J J ?_;refine Xi J Vi (Zc J) (Zc J) J B2 J J ?_;intro wS7 hgS7 hzS7;have C2:=B2;clear B2;intro B2;replace B1:=B1.keep hgS7 (by intro h;injection h with h;first|exact x2_1 h.symm|exact x1_2 h|omega);replace B3:=B3.keep hgS7 (by intro h;injection h with h;first|exact x2_3 h.symm|exact x3_2 h|omega);replace B4:=B4.keep hgS7 (by intro h;injection h with h;first|exact x2_4 h.symm|exact x4_2 h|omega);have g:=Yb g hgS7 O;have h:=h.keep hgS7 C2 O (by first|exact .inl rfl|exact .inr ⟨by simp,fun hm=>by have:=hTB _ hm;omega⟩);have hO:=hO.keep hgS7 Os;refine Xm ?_;refine Vaa [(1,_,_),(2,_,_),(3,_,_),(4,_,_),(5,_,_),(29,_,_),(30,_,_),(31,_,_)] (Zb J (Zb J (Zb J (Zb J (Zb J (Zb J (Zb J (Zb J (Zq _))))))))) ?_;refine Jl (hK13 _ _ _ ?_);refine Xz [3,3] ?_;refine Zeb J J O ?_;refine Zz J (fun _=>Zw (Zc J)) ?_;refine Vh [(31,_,_),(1,_,_),(2,_,_),(3,_,_),(4,_,_),(5,_,_),(29,_,_),(30,_,_)] (Zb J (Zb J (Zb J (Zb J (Zb J (Zb J (Zb J (Zb J (Zq _))))))))) ?_;refine Ze (fun a ha=>?_);refine ⟨rfl,?_⟩
    exact ⟨i+1,ha,⟨⟨h2,he39,h,_,B2,(by have q:=hO;simp only [Aga,Awa] at q ⊢;exact q)⟩,g⟩,(Zx (blkE B1) (Zx (blkE B3) (Zx (blkE B4) (Wa _)))),O⟩
   ·refine Ys (L':=[9]) [3,0,3,0,2,3,1,2,3,2,3,2] rfl rfl rfl rfl ?_
    refine Xi J Vi (Zc J) (Zc J) J B2 J J ?_;intro wS6 hgS6 hzS6;have C2:=B2;clear B2;intro B2;replace B1:=B1.keep hgS6 (by intro h;injection h with h;first|exact x2_1 h.symm|exact x1_2 h|omega);replace B3:=B3.keep hgS6 (by intro h;injection h with h;first|exact x2_3 h.symm|exact x3_2 h|omega);replace B4:=B4.keep hgS6 (by intro h;injection h with h;first|exact x2_4 h.symm|exact x4_2 h|omega);have g:=Yb g hgS6 O;have h:=h.keep hgS6 C2 O (by first|exact .inl rfl|exact .inr ⟨by simp,fun hm=>by have:=hTB _ hm;omega⟩);have hO:=hO.keep hgS6 Os;have k39:=k39.keep hgS6 Oi;refine Xm ?_;refine Zm 9 J J ?_;refine Ys (L':=[]) [3,0,3,0,2,3,1,2,3,2,3,2] J J J J ?_;obtain ⟨g43,c44,l43,es3,hBg,hfit,hgx,hgl,hset⟩:=hO.setl;injection es3 with e3 _ e4;injection e3 with e3;injection e3 with e3 _ _;subst e3 e4;have eo:0+((dclA F rs0 i).1.length:Int).toNat*9=(dclA F rs0 i).1.length*9:=by rw [Ava];omega
    refine Xb J Yk (Zc J) (Zc J) J J hBg (Nat.ble_eq.mpr (by rw [eo];exact hfit)) J ?_;intro wS hgS hzS BS;rw [eo] at BS;have hO:=hset hgS BS (Vo k39 hm39 Oj hs1);have B1:=B1.keep hgS (fun e=>hgx (by injection e with e;simp [← e]));have B2:=B2.keep hgS (fun e=>hgx (by injection e with e;simp [← e]));have B3:=B3.keep hgS (fun e=>hgx (by injection e with e;simp [← e]));have B4:=B4.keep hgS (fun e=>hgx (by injection e with e;simp [← e]));have g:=Yb g hgS hgl;have h:=h.keep hgS hBg O (.inl rfl);refine Xm ?_;refine Vaa [(1,_,_),(2,_,_),(3,_,_),(4,_,_),(5,_,_),(29,_,_),(30,_,_),(31,_,_)] (Zb J (Zb J (Zb J (Zb J (Zb J (Zb J (Zb J (Zb J (Zq _))))))))) ?_;refine Jl (hK13 _ _ _ ?_);refine Xz [3,3] ?_;refine Zeb J J O ?_;refine Zz J (fun _=>Zw (Zc J)) ?_;refine Vh [(31,_,_),(1,_,_),(2,_,_),(3,_,_),(4,_,_),(5,_,_),(29,_,_),(30,_,_)] (Zb J (Zb J (Zb J (Zb J (Zb J (Zb J (Zb J (Zb J (Zq _))))))))) ?_;refine Ze (fun a ha=>?_);refine ⟨rfl,?_⟩;exact ⟨i+1,ha,⟨⟨h2,he39,h,_,B2,(by have q:=hO;simp only [Aga,Awa] at q ⊢;exact q)⟩,g⟩,(Zx (blkE B1) (Zx (blkE B3) (Zx (blkE B4) (Wa _)))),O⟩
  ·refine Zl (L':=[4,7,8,9,10,11]) [3,0,3,0,2,3,1,2,3,2,3,2] rfl rfl rfl ?_
   refine Ya _ J Zd Zp (pqc J pq0) J J ?_;intro b41 w41 N41;have x41_1:=N41.ne B1;have x41_2:=N41.ne B2;have x41_3:=N41.ne B3;have x41_4:=N41.ne B4;have x41_7:=N41.ne B7;have l41:=Wc N41 g.size;have hO:=hO.new N41;have g:=gtg g N41.g;replace B1:=B1.grow (N41.g);replace B2:=B2.grow (N41.g);replace B3:=B3.grow (N41.g);replace B4:=B4.grow (N41.g);replace B7:=B7.grow (N41.g);have h:=h.grow (N41.g);have hkid:=hkid.grow (N41.g);have B41:=N41.blk;refine Zs (GT.of_g (N41.g)) ?_;refine Zm 4 J J ?_;refine Zl (L':=[7,8,9,10,11]) [3,0,3,0,2,3,1,2,3,2,3,2] J J J ?_;have hOlt:=hO.lt;refine Yda J (Zy Zia Wz (Yn (Zc J) (Yn (Zc J) (Xw))) J) (Uxd [b1,b2,b3,b4,b7] HF hdk hdp O h hei hkid (Aha.2 ⟨B1.lt,Aha.2 ⟨B2.lt,Aha.2 ⟨B3.lt,Aha.2 ⟨B4.lt,Aha.2 ⟨B7.lt,Bga _⟩⟩⟩⟩⟩) g.size) ((fun ch w' hz=>Wne J hv J J J (B2.gt hz.2.2 J) (B3.gx hz.2.2 Os) (B4.gt hz.2.2 J) ⟨O,O,O⟩ (gg_t (Uwd g hn0) hz.2.2 hn0) ⟨hz.1,hz.2.1⟩ (Vsf hdu h2))) ?_;rintro v39 w39 ⟨⟨p39,c39,rfl,q39,k39⟩,he39,h,g39⟩;refine ⟨nw1,?_⟩;have g:=gtw g g39;try replace B1:=B1.gt g39 rfl
   try replace B2:=B2.gt g39 rfl
   try replace B4:=B4.gt g39 rfl
   try replace B7:=B7.gt g39 rfl
   try replace B41:=B41.gt g39 rfl
   have hO:=hO.gt g39 rfl;have B3:=B3.gx g39 Os;obtain ⟨lo39,hs0,hm39,k39⟩:=Uyd hOlt k39 q39;refine Zs (g39) ?_;refine Zm 7 J J ?_;refine Ys (L':=[8,9,10,11]) [3,0,3,0,2,3,1,2,3,2,3,2] J J J J ?_;refine Wac J Zd Zp J (Zc J) hO (Zc J) J B41.row (Ve (t:=nd0) (v:=.slice none 0 0) (Vsc _ _)) (by simp;omega) (by have:=g.size;omega) ⟨by have:=g.size;omega,by have q1:=B1.lt;have q2:=B2.lt;have q3:=B3.lt;have q4:=B4.lt;have q7:=B7.lt;have q41:=B41.lt;simp;omega⟩ ?_;intro a42 c42 w42 hO2 hg42 hat42;have B1:=B1.keep hg42 (hO.ne Os);have B2:=B2.keep hg42 (hO.ne Os);have B3:=B3.keep hg42 (hO.ne Os);have B4:=B4.keep hg42 (hO.ne Os);have g:=Wx g hg42 (fun k hk=>hO.ge k hk);have h:=h.keepO hg42 hO O;try obtain ⟨k39,hs1⟩:=k39.app hO (fun k hk=>.inr (hs0 k hk)) hg42 hat42
   replace hO:=hO2;refine Xm ?_;have n7:=hO.ne (b:=b7) Os;have n41:=hO.ne (b:=b41) Os;have hO:=hO.sub (Y:=[b1,b2,b3,b4]) Oj;obtain ⟨g42,c43,l42,es,_⟩:=hO.setl;injection es with e1 _ e2;subst e1 e2;refine Vva (L':=[9,10,11]) 8 J J J (fun _=>Jva Zd (Zc J) (Zc J) (fun _=>by simp;omega)) ?_;refine Vva (L':=[9,11]) 10 J J J (fun _=>Zh Zg (Zc J)) ?_;refine Yib 9 11 J J ?_ ?_
   ·refine Ys (L':=[11]) [3,0,3,0,2,3,1,2,3,2,3,2] rfl rfl rfl rfl ?_
    obtain ⟨g43,c44,l43,es3,hBg,hfit,hgx,hgl,hset⟩:=hO.setl;injection es3 with e3 _ e4;injection e3 with e3;injection e3 with e3 _ _;subst e3 e4;have eo:0+((dclA F rs0 i).1.length:Int).toNat*9=(dclA F rs0 i).1.length*9:=by rw [Ava];omega
    refine Xb J Yk (Zc J) (Zc J) J J hBg (Nat.ble_eq.mpr (by rw [eo];exact hfit)) J ?_;intro wS hgS hzS BS;rw [eo] at BS;have hO:=hset hgS BS (Vo k39 hm39 Oj hs1);have B1:=B1.keep hgS (fun e=>hgx (by injection e with e;simp [← e]));have B2:=B2.keep hgS (fun e=>hgx (by injection e with e;simp [← e]));have B3:=B3.keep hgS (fun e=>hgx (by injection e with e;simp [← e]));have B4:=B4.keep hgS (fun e=>hgx (by injection e with e;simp [← e]));have g:=Yb g hgS hgl;have h:=h.keep hgS hBg O (.inl rfl);refine Xm ?_;refine Zm 11 J J ?_;refine Ys (L':=[]) [3,0,3,0,2,3,1,2,3,2,3,2] J J J J ?_;refine Xi J Vi (Zc J) (Zc J) J B2 J J ?_;intro wS7 hgS7 hzS7;have C2:=B2;clear B2;intro B2;replace B1:=B1.keep hgS7 (by intro h;injection h with h;first|exact x2_1 h.symm|exact x1_2 h|omega);replace B3:=B3.keep hgS7 (by intro h;injection h with h;first|exact x2_3 h.symm|exact x3_2 h|omega);replace B4:=B4.keep hgS7 (by intro h;injection h with h;first|exact x2_4 h.symm|exact x4_2 h|omega);have g:=Yb g hgS7 O;have h:=h.keep hgS7 C2 O (by first|exact .inl rfl|exact .inr ⟨by simp,fun hm=>by have:=hTB _ hm;omega⟩);have hO:=hO.keep hgS7 Os;refine Xm ?_;refine Vaa [(1,_,_),(2,_,_),(3,_,_),(4,_,_),(5,_,_),(29,_,_),(30,_,_),(31,_,_)] (Zb J (Zb J (Zb J (Zb J (Zb J (Zb J (Zb J (Zb J (Zq _))))))))) ?_;refine Jl (hK13 _ _ _ ?_);refine Xz [3,3] ?_;refine Zeb J J O ?_;refine Zz J (fun _=>Zw (Zc J)) ?_;refine Vh [(31,_,_),(1,_,_),(2,_,_),(3,_,_),(4,_,_),(5,_,_),(29,_,_),(30,_,_)] (Zb J (Zb J (Zb J (Zb J (Zb J (Zb J (Zb J (Zb J (Zq _))))))))) ?_;refine Ze (fun a ha=>?_);refine ⟨rfl,?_⟩
    exact ⟨i+1,ha,⟨⟨h2,he39,h,_,B2,(by have q:=hO;simp only [Aga,Awa] at q ⊢;exact q)⟩,g⟩,(Zx (blkE B1) (Zx (blkE B3) (Zx (blkE B4) (Wa _)))),O⟩
   ·refine Ys (L':=[9]) [3,0,3,0,2,3,1,2,3,2,3,2] rfl rfl rfl rfl ?_
    refine Xi J Vi (Zc J) (Zc J) J B2 J J ?_;intro wS6 hgS6 hzS6;have C2:=B2;clear B2;intro B2;replace B1:=B1.keep hgS6 (by intro h;injection h with h;first|exact x2_1 h.symm|exact x1_2 h|omega);replace B3:=B3.keep hgS6 (by intro h;injection h with h;first|exact x2_3 h.symm|exact x3_2 h|omega);replace B4:=B4.keep hgS6 (by intro h;injection h with h;first|exact x2_4 h.symm|exact x4_2 h|omega);have g:=Yb g hgS6 O;have h:=h.keep hgS6 C2 O (by first|exact .inl rfl|exact .inr ⟨by simp,fun hm=>by have:=hTB _ hm;omega⟩);have hO:=hO.keep hgS6 Os;have k39:=k39.keep hgS6 Oi;refine Xm ?_;refine Zm 9 J J ?_;refine Ys (L':=[]) [3,0,3,0,2,3,1,2,3,2,3,2] J J J J ?_;obtain ⟨g43,c44,l43,es3,hBg,hfit,hgx,hgl,hset⟩:=hO.setl;injection es3 with e3 _ e4;injection e3 with e3;injection e3 with e3 _ _;subst e3 e4;have eo:0+((dclA F rs0 i).1.length:Int).toNat*9=(dclA F rs0 i).1.length*9:=by rw [Ava];omega
    refine Xb J Yk (Zc J) (Zc J) J J hBg (Nat.ble_eq.mpr (by rw [eo];exact hfit)) J ?_;intro wS hgS hzS BS;rw [eo] at BS;have hO:=hset hgS BS (Vo k39 hm39 Oj hs1);have B1:=B1.keep hgS (fun e=>hgx (by injection e with e;simp [← e]));have B2:=B2.keep hgS (fun e=>hgx (by injection e with e;simp [← e]));have B3:=B3.keep hgS (fun e=>hgx (by injection e with e;simp [← e]));have B4:=B4.keep hgS (fun e=>hgx (by injection e with e;simp [← e]));have g:=Yb g hgS hgl;have h:=h.keep hgS hBg O (.inl rfl);refine Xm ?_;refine Vaa [(1,_,_),(2,_,_),(3,_,_),(4,_,_),(5,_,_),(29,_,_),(30,_,_),(31,_,_)] (Zb J (Zb J (Zb J (Zb J (Zb J (Zb J (Zb J (Zb J (Zq _))))))))) ?_;refine Jl (hK13 _ _ _ ?_);refine Xz [3,3] ?_;refine Zeb J J O ?_;refine Zz J (fun _=>Zw (Zc J)) ?_;refine Vh [(31,_,_),(1,_,_),(2,_,_),(3,_,_),(4,_,_),(5,_,_),(29,_,_),(30,_,_)] (Zb J (Zb J (Zb J (Zb J (Zb J (Zb J (Zb J (Zb J (Zq _))))))))) ?_;refine Ze (fun a ha=>?_);refine ⟨rfl,?_⟩;exact ⟨i+1,ha,⟨⟨h2,he39,h,_,B2,(by have q:=hO;simp only [Aga,Awa] at q ⊢;exact q)⟩,g⟩,(Zx (blkE B1) (Zx (blkE B3) (Zx (blkE B4) (Wa _)))),O⟩
 replace h2:i=F.kids.length:=by simp only [Zbh] at h2;omega
 subst h2;refine Zmf J (hK9 _ _ _ ?_);refine Uta [(1,_,_),(2,_,_),(3,_,_),(4,_,_),(5,_,_)] (Zb J (Zb J (Zb J (Zb J (Zb J (Zq _)))))) ?_;refine Wf fun K15 hK15=>?_;refine Xz [3,3,3,0,0,3,3,3,1,2,3] ?_;obtain ⟨fv,ns,ng,nn,nf,qv,sv,cv,rv,hP⟩:=id h;obtain ⟨fk,fp,fm,fc,fy,ef,hfb⟩:=Uuc hP.T [109,97,105,110];refine Zz J (fun _=>Zw (Zc J)) ?_;refine Zz J (fun _=>Zxa (Zc J)) ?_;refine Zz J (fun _=>Zh Ql (Zc J)) ?_;refine Qb J (Zt Wp (Zc J) (fun _=>hP.B.at_ J)) ?_;refine Qb J (Zse ef hP.T.hf (Zc J) Xv) ?_;refine Zz J (fun _=>Zw (Zc J)) ?_;refine Zz J (fun _=>Qga (Zc J) J) ?_;refine Zz J (fun _=>Qga (Zc J) J) ?_;refine Yt J Uf J ?_;intro b8 w8 N8;have x8_1:=N8.ne B1;have x8_2:=N8.ne B2;have x8_3:=N8.ne B3;have x8_4:=N8.ne B4;have l8:=Wc N8 g.size;have hO:=hO.new N8;have g:=gtg g N8.g;replace B1:=B1.grow (N8.g);replace B2:=B2.grow (N8.g);replace B3:=B3.grow (N8.g);replace B4:=B4.grow (N8.g);have hk0:=hk0.grow (N8.g);have h:=h.grow (N8.g);have B8:=N8.blk;refine Xq J Zua (Zc J) (Zc J) J J B8 J J ?_;intro wS8 hgS8 hzS8;have C8:=B8;clear B8;intro B8;replace B1:=B1.keep hgS8 (by intro h;injection h with h;first|exact x8_1 h.symm|exact x1_8 h|omega);replace B2:=B2.keep hgS8 (by intro h;injection h with h;first|exact x8_2 h.symm|exact x2_8 h|omega);replace B3:=B3.keep hgS8 (by intro h;injection h with h;first|exact x8_3 h.symm|exact x3_8 h|omega);replace B4:=B4.keep hgS8 (by intro h;injection h with h;first|exact x8_4 h.symm|exact x4_8 h|omega);have g:=Yb g hgS8 O;have h:=h.keep hgS8 C8 O (by first|exact .inl rfl|exact .inr ⟨by simp,fun hm=>by have:=hTB _ hm;omega⟩)
 have hk0:=hk0.keep hgS8 (fun k hk _ e=>by injection e with e;omega);have hO:=hO.keep hgS8 Os;refine Zz J (fun _=>Ji (Zc J)) ?_;refine Vh [(1,_,_),(2,_,_),(3,_,_),(4,_,_),(8,_,_),(9,_,_)] (Zb J (Zb J (Zb J (Zb J (Zb J (Zb J (Zq _))))))) ?_;refine Ze (hK15 _ _ _ ?_);refine Wf fun K16 hK16=>?_;refine Xz [3,1] ?_;refine Zz J (fun _=>Zw (Zc J)) ?_;refine Yda J (Zy Yd Wz (Yn (Zc J) (Yn Xv (Yn Xv (Xw)))) J) (Wy _ _ _ _) ((fun ch w' hz=>Wdd J hv J J J (B2.grow hz.2.2) (B3.grow hz.2.2) (B4.grow hz.2.2) ⟨O,O,O⟩ (Uwd (g.trans (GT.of_g hz.2.2)) hn0) (T:={ (dclA F rs0 F.kids.length).2 with ea:=0,ee:=5 }) ⟨hz.2.1,by show ¬ (5:Int)=0;decide⟩ (er_r5 hdu hei hz.1))) ?_;rintro v55 w55 ⟨rfl,hq55,g55⟩;refine ⟨fun _=>g55,?_⟩;have g:=gtg g g55;replace B1:=B1.grow (g55);replace B2:=B2.grow (g55);replace B3:=B3.grow (g55);replace B4:=B4.grow (g55);replace B8:=B8.grow (g55);have hk0:=hk0.grow (g55);have h:=h.grow (g55);have hO:=hO.grow (g55);refine Vh [(1,_,_),(2,_,_),(3,_,_),(4,_,_),(8,_,_)] (Zb J (Zb J (Zb J (Zb J (Zb J (Zq _)))))) ?_;refine Ze (hK16 _ _ _ ?_);refine Wf fun K17 hK17=>?_;refine Wf fun K18 hK18=>?_;refine Xz [3,0,3,3,3,3,0,3,3,3] ?_;refine Zz J (fun _=>Zh Jf (Zc J)) ?_;refine Qb J (Zt Vv (Zc J) (fun _=>B8.at_ J)) ?_;refine Xva Wd J ?_;refine Zz J (fun _=>Jfc (Zc J) Xv) ?_;refine Zz J (fun _=>Zw (Zc J)) ?_;refine Zv J J J (fun _=>Zh Jg (Zc J)) ?_;refine Wb J J J (Zo Zj (Yc J id) J (fun _=>B8.row.part 2 2)) ?_;refine Zv J J J (fun _=>Qt [_,_] Yz J Vj (Up) J) ?_;refine Zv J J J (fun _=>Zvd Wh (Yc J id) (Yc J id) J) ?_;refine Zz J (fun _=>Xo (Zc J) (Yc J id)) ?_
 refine Vh [(1,_,_),(2,_,_),(3,_,_),(4,_,_),(65,_,_)] (Zb J (Zb J (Zb J (Zb J (Zb J (Zq _)))))) ?_;refine Ze (hK18 _ _ _ ?_);refine Whb (Zc J) (fun h3=>?_) (fun h3=>?_)
 ·obtain ⟨hfk,hpv,hfy⟩:=hfb hq55
  rw [hfk] at hpv;have hfm:=Woe hP.T hq55 hpv;replace h3:(decide (0<((parT (findD F 4 [109,97,105,110]).1).length:Int)) || !tyEqB (resT (findD F 4 [109,97,105,110]).1) ty0)=true:=by rw [← eqT0,← hfy,← hfm];exact h3
  refine Wf fun K19 hK19=>?_;refine Xz [3,0,3,3] ?_;refine Zz J (fun _=>Zh Zg (Zc J)) ?_;refine Qb J (Zt Zi (Zc J) (fun _=>B1.at_ J)) ?_;refine Xva Zd J ?_;refine Zz J (fun _=>Zw Xv) ?_;refine Vh [(2,_,_),(3,_,_),(4,_,_),(67,_,_),(68,_,_),(69,_,_)] (Zb J (Zb J (Zb J (Zb J (Zb J (Zb J (Zq _))))))) ?_;refine Ze (hK19 _ _ _ ?_);refine Vnb ?_;refine Zkd (fun (i:Nat) u2=>(i≤F.kids.length∧∀ j,j<i→¬ ((Za F j).kind=4∧(Za F j).text=[109,97,105,110]))∧GT (mutC (b3::TB)) n0 w u2) _ [(2,True,_),(3,True,_),(4,True,_),(67,True,_),(68,True,_)] (fun (i:Nat)=>[(69,True,.int .i64 i)]) (fun (i:Nat)=>F.kids.length-i) (0) ⟨⟨Ama _,fun j hj=>absurd hj O⟩,g⟩ (Zx (blkE B1) (Zx (blkE B2) (Zx (blkE B3) (Zx (blkE B4) (Zx (blkE B8) (Wa _)))))) (Zb J (Zb J (Zb J (Zb J (Zb J (Zb J (Zq _))))))) ?_;clear B1 B2 B3 B4 B8;rintro i u2 ⟨hI2,gl2⟩ ⟨B1,B2,B3,B4,B8,_⟩;replace B1:Blk _ _ _ _:=B1;replace B2:Blk _ _ _ _:=B2;replace B3:Blk _ _ _ _:=B3;replace B4:Blk _ _ _ _:=B4;replace B8:Blk _ _ _ _:=B8;have g:=gl2;obtain ⟨hi,hno⟩:=hI2;have hk0:=hkw.gt gl2 (fun k h=>h);refine Wf fun K20 hK20=>?_;refine Xz [3] ?_;refine Zz J (fun _=>Jec (Zc J) (Zc J)) ?_;refine Ze (hK20 _ _ _ ?_);refine Uta [(2,_,_),(3,_,_),(4,_,_),(67,_,_),(68,_,_),(69,_,_),(70,_,_)] (Zb J (Zb J (Zb J (Zb J (Zb J (Zb J (Zb J (Zq _)))))))) ?_;refine Wf fun K21 hK21=>?_;refine Whb (Zc J) (fun h4=>?_) (fun h4=>?_)
  ·replace h4:i<F.kids.length:=by simp only [Zah] at h4;omega
   obtain ⟨e0,p1,c1,hcell,hkid⟩:=Yr hk0 (i:=i) h4;refine Jxb (hK21 _ _ _ ?_);refine Uta [(2,_,_),(3,_,_),(4,_,_),(67,_,_),(68,_,_),(69,_,_)] (Zb J (Zb J (Zb J (Zb J (Zb J (Zb J (Zq _))))))) ?_;refine Wf fun K22 hK22=>?_;refine Vnb ?_;refine Wf fun K23 hK23=>?_;refine Xz [3,0,1,2] ?_;refine Yja Zd J J O e0 ?_;refine Qb J (Zo Zf (Zc J) J (fun _=>hcell)) ?_;refine Yt J Zp J ?_;intro b11 w11 N11;have x11_1:=N11.ne B1;have x11_2:=N11.ne B2;have x11_3:=N11.ne B3;have x11_4:=N11.ne B4;have x11_8:=N11.ne B8;have l11:=Wc N11 g.size;have g:=gtg g N11.g;replace B1:=B1.grow (N11.g);replace B2:=B2.grow (N11.g);replace B3:=B3.grow (N11.g);replace B4:=B4.grow (N11.g);replace B8:=B8.grow (N11.g);have B11:=N11.blk;refine Xq J Yk (Zc J) (Zc J) J J B11 J J ?_;intro wS9 hgS9 hzS9;clear B11;intro B11;replace B1:=B1.keep hgS9 (by intro h;injection h with h;first|exact x11_1 h.symm|exact x1_11 h|omega);replace B2:=B2.keep hgS9 (by intro h;injection h with h;first|exact x11_2 h.symm|exact x2_11 h|omega);replace B3:=B3.keep hgS9 (by intro h;injection h with h;first|exact x11_3 h.symm|exact x3_11 h|omega);replace B4:=B4.keep hgS9 (by intro h;injection h with h;first|exact x11_4 h.symm|exact x4_11 h|omega);replace B8:=B8.keep hgS9 (by intro h;injection h with h;first|exact x11_8 h.symm|exact x8_11 h|omega);have g:=Yb g hgS9 O;refine Vh [(2,_,_),(3,_,_),(4,_,_),(11,_,_),(67,_,_),(68,_,_),(69,_,_)] (Zb J (Zb J (Zb J (Zb J (Zb J (Zb J (Zb J (Zq _)))))))) ?_;refine Ze (hK23 _ _ _ ?_);refine Xz [3,0,3,3,3,0,3,3,3,0,1] ?_;refine Zz J (fun _=>Zh Xd (Zc J)) ?_;refine Qb J (Zt Yf (Zc J) (fun _=>B11.at_ J)) ?_
   refine Zz J (fun _=>Woa (Zc J) Xv) ?_;refine Zz J (fun _=>Zw (Zc J)) ?_;refine Zv J J J (fun _=>Zh Xt (Zc J)) ?_;refine Wb J J J (Zt Xc (Yc J id) (fun _=>B11.at_ J)) ?_;refine Zv J J J (fun _=>Jfd (Yc J id) Xv) ?_;refine Zz J (fun _=>Xo (Zc J) (Yc J id)) ?_;refine Zz J (fun _=>Zh Xp (Zc J)) ?_;refine Qb J (Zt Yf (Zc J) (fun _=>B11.at_ J)) ?_;refine Yda J (Zy Yd Wz (Yn (Zc J) (Yn (Zc J) (Yn Xv (Xw)))) J) (Wy _ _ _ _) ((fun ch w' hz=>Wdd J hv J J J (B2.grow hz.2.2) (B3.grow hz.2.2) (B4.grow hz.2.2) ⟨O,O,O⟩ (Uwd (g.trans (GT.of_g hz.2.2)) hn0) (T:={ (dclA F rs0 F.kids.length).2 with ea:=(Za F i).pos,ee:=7 }) ⟨hz.2.1,by show ¬ (7:Int)=0;decide⟩ (er_r7 hdu hei HF.res hq55 h3 h4 (Umg hz.1)))) ?_;rintro v83 w83 ⟨rfl,hq83,g83⟩;refine ⟨fun _=>g83,?_⟩;have g:=gtg g g83;replace B1:=B1.grow (g83);replace B2:=B2.grow (g83);replace B3:=B3.grow (g83);replace B4:=B4.grow (g83);replace B8:=B8.grow (g83);refine Vh [(2,_,_),(3,_,_),(4,_,_),(67,_,_),(68,_,_),(69,_,_)] (Zb J (Zb J (Zb J (Zb J (Zb J (Zb J (Zq _))))))) ?_;refine Ze (hK22 _ _ _ ?_);refine Xz [3,3] ?_;refine Zeb J J O ?_;refine Zz J (fun _=>Zw (Zc J)) ?_;refine Vh [(69,_,_),(2,_,_),(3,_,_),(4,_,_),(67,_,_),(68,_,_)] (Zb J (Zb J (Zb J (Zb J (Zb J (Zb J (Zq _))))))) ?_;refine Ze (fun a ha=>?_);refine ⟨rfl,?_⟩;exact ⟨i+1,ha,⟨⟨h4,Ung hno hq83⟩,g⟩,(Zx (blkE B1) (Zx (blkE B2) (Zx (blkE B3) (Zx (blkE B4) (Zx (blkE B8) (Wa _)))))),O⟩
  exfalso;replace h4:i=F.kids.length:=by simp only [Zbh] at h4;omega
  obtain ⟨j,hj,k4,e4,_⟩:=Qda (show 0≤(findD F 4 [109,97,105,110]).2 from Zch hq55);exact hno j O ⟨k4,e4⟩;done
 obtain ⟨hfk,hpv,hfy⟩:=hfb hq55;rw [hfk] at hpv;have hfm:=Woe hP.T hq55 hpv;replace h3:(decide (0<((parT (findD F 4 [109,97,105,110]).1).length:Int)) || !tyEqB (resT (findD F 4 [109,97,105,110]).1) ty0)=false:=by rw [← eqT0,← hfy,← hfm];exact h3
 refine Jxb (hK17 _ _ _ ?_);refine Uta [(2,_,_),(3,_,_),(4,_,_)] (Zb J (Zb J (Zb J (Zq _)))) ?_;refine Wf fun K24 hK24=>?_;refine Xz [0,2,2,2] ?_;refine Qb J (Zo Zf (Zc J) J (fun _=>B2.row)) ?_;refine Xq J Yk (Zc J) (Zc J) J J B2 J J ?_;intro wS10 hgS10 hzS10;have C2:=B2;clear B2;intro B2;replace B1:=B1.keep hgS10 (by intro h;injection h with h;first|exact x2_1 h.symm|exact x1_2 h|omega);replace B3:=B3.keep hgS10 (by intro h;injection h with h;first|exact x2_3 h.symm|exact x3_2 h|omega);replace B4:=B4.keep hgS10 (by intro h;injection h with h;first|exact x2_4 h.symm|exact x4_2 h|omega);replace B8:=B8.keep hgS10 (by intro h;injection h with h;first|exact x2_8 h.symm|exact x8_2 h|omega);have g:=Yb g hgS10 O;have h:=h.keep hgS10 C2 O (by first|exact .inl rfl|exact .inr ⟨by simp,fun hm=>by have:=hTB _ hm;omega⟩);have hO:=hO.keep hgS10 Os;refine Xq J Vca (Zc J) Xv J J B3 J J ?_;intro wS11 hgS11 hzS11;clear B3;intro B3;replace B1:=B1.keep hgS11 (by intro h;injection h with h;first|exact x3_1 h.symm|exact x1_3 h|omega);replace B2:=B2.keep hgS11 (by intro h;injection h with h;first|exact x3_2 h.symm|exact x2_3 h|omega);replace B4:=B4.keep hgS11 (by intro h;injection h with h;first|exact x3_4 h.symm|exact x4_3 h|omega);replace B8:=B8.keep hgS11 (by intro h;injection h with h;first|exact x3_8 h.symm|exact x8_3 h|omega);have g:=Yb g hgS11 O;have hO:=hO.keep hgS11 Os;refine Xq J Uga (Zc J) Xv J J B4 J J ?_;intro wS12 hgS12 hzS12;clear B4;intro B4;replace B1:=B1.keep hgS12 (by intro h;injection h with h;first|exact x4_1 h.symm|exact x1_4 h|omega)
 replace B2:=B2.keep hgS12 (by intro h;injection h with h;first|exact x4_2 h.symm|exact x2_4 h|omega);replace B3:=B3.keep hgS12 (by intro h;injection h with h;first|exact x4_3 h.symm|exact x3_4 h|omega);replace B8:=B8.keep hgS12 (by intro h;injection h with h;first|exact x4_8 h.symm|exact x8_4 h|omega);have g:=Yb g hgS12 O;have hO:=hO.keep hgS12 Os;refine Vh [(2,_,_),(3,_,_),(4,_,_)] (Zb J (Zb J (Zb J (Zq _)))) ?_;refine Ze (hK24 _ _ _ ?_);refine Jyb (?_);refine Ukg Zfb Jae ?_;rintro v90 w90 ⟨_,g90⟩;have B2:=B2.grow g90;have B3:=B3.grow g90;have B4:=B4.grow g90;have hO:=hO.grow g90;have g:=g.trans (GT.of_g g90);refine Ymc (Wza (rs:=[.cell 2 26,.cell 3 3,.cell 4 30]) (vs:=[_,_,_]) J J (Yoa J Zf J (by first|exact B1.row|exact B2.row|exact B3.row|exact B4.row|exact B8.row) (Xvb J Yf (by first|exact B1.at_ J|exact B2.at_ J|exact B3.at_ J|exact B4.at_ J|exact B8.at_ J) (Xvb J Yta (by first|exact B1.at_ J|exact B2.at_ J|exact B3.at_ J|exact B4.at_ J|exact B8.at_ J) (Uc)))) J ?_);have er:refCheck F=(refA F,0,0):=Uvd hv (by rw [(Zpc hdu).1,Vtf HF.res hq55,h3];exact hei);exact ⟨⟨_,by rw [er],by rw [er,(Zpc hdu).2];exact Xh (t:=annT F _ ty0) rfl hO.kd⟩,Uwd g hn0⟩
theorem Jce(F:Nd)(v:Ga)(D:Nat→Prop)(w:Aa)(hkD:Kd w D F.kids v)(hcn:count F≤1000000)(hL0:LaidW w.heap.size w):Ret PP 13 #[ndV F v] w (RChk F w) :=
 (Yhe F v D w hkD hcn hL0).ret fun _ _ h=>h
theorem Xmc(F:Nd)(v:Ga)(D:Nat→Prop)(w:Aa){m0:Nat}(Z:List Nat)(hkD:Kd w D F.kids v)(hcn:count F≤1000000)(hL0:LaidW w.heap.size w)(hZ:∀ j∈Z,j<w.heap.size)(hm:m0≤w.heap.size) :
 Ret PP 13 #[ndV F v] w fun r w'=>(∃ p c,r = .tuple #[ndV (refCheck F).1 (.slice p (refCheck F).1.kids.length c),.int .i64 (refCheck F).2.1,.int .i64 (refCheck F).2.2]∧m0≤w.heap.size∧KdX w.heap.size Z w' (refCheck F).1.kids (.slice p (refCheck F).1.kids.length c))∧G w w' :=
 (Jce F v D w hkD hcn hL0).mono fun r w' hr=>by
 obtain ⟨⟨u,rfl,p,c,e,k⟩,g⟩:=hr;exact ⟨⟨p,c,by rw [e],hm,KdN.x k hZ⟩,g⟩
theorem LaidW.top{n0:Nat}{w:Aa}(h:LaidW n0 w):LaidW w.heap.size w:=⟨h.hL,h.hT,h.hC,Apa h.hG h.hn,Afa _⟩
theorem LaidW.mk'{w:Aa}(h:Laid w)(hT:LaidT w)(hC:Xrf w)(hb:10≤w.heap.size):LaidW w.heap.size w:=⟨h,hT,hC,hb,Afa _⟩
inductive A0 where
   | i (k:IntKind) (x:Int)|s (l:List UInt8)|b (x:Bool)|n|p (k o:Nat)|e|r (k m:Nat)|f (g:Nat)
 deriving DecidableEq
inductive A1 where
   | c (a:A0)|g (l:List A0)
 deriving DecidableEq
inductive AV where
   | v (a:A1)|t (l:List A1)|u
 deriving DecidableEq
structure AB where
   e:Nat
   q:Option (Nat×Nat)
   l:List A0
 deriving DecidableEq
structure Rv where
  b:Nat
  c:Nat
  h:Option Obj
section
variable (ρ:Nat→Rv)
def v0:A0→Ga
 | .i k x=>.int k x
 | .s l=>Str l
 | .b x=>.bool x
 | .n=>.pointer none
 | .p k o=>.pointer (some ⟨(ρ k).b,o,none⟩)
 | .e=>.slice none 0 0
 | .r k m=>.slice (some ⟨(ρ k).b,0,none⟩) m (ρ k).c
 | .f g=>.func (.func g) #[] #[]
def v1:A1→Ga
 | .c a=>v0 ρ a
 | .g l=>.agg (l.map (v0 ρ)).toArray
def vA:AV→Ga
 | .v a=>v1 ρ a
 | .t l=>.tuple (l.map (v1 ρ)).toArray
 | .u=>undef
def e1:AV→Prop×Ga
 | .u=>(False,.bool false)
 | a=>(True,vA ρ a)
end
def cA:A1→List A0
 | .c a=>[a]
 | .g l=>l
theorem Vdb(ρ:Nat→Rv)(a:A1):(v1 ρ a).cells=((cA a).map (v0 ρ)).toArray:=by
 cases a with
 | c a=>cases a <;> rfl
 | g l=>rfl
theorem Uog(ρ:Nat→Rv)(a:A0):(v0 ρ a).oneCell'=true:=by cases a <;> rfl
theorem Wpe(ρ:Nat→Rv)(l:List A0):onesB (l.map (v0 ρ))=true:=by
 unfold onesB;rw [Aca];intro u hu;obtain ⟨a,_,rfl⟩:=List.mem_map.1 hu;exact Uog ρ a
/-! tables -/
def lk{α:Type}:List (Nat×α)→Nat→Option α
 | [],_=>none
 | (k,v)::r,t=>bif Aaa k t then some v else lk r t
def ins{α:Type}(t:Nat)(v:α):List (Nat×α)→List (Nat×α)
 | []=>[(t,v)]
 | (k,x)::r=>bif Aaa k t then (t,v)::r else bif Aba k t then (t,v)::(k,x)::r else (k,x)::ins t v r
def del{α:Type}(t:Nat)(l:List (Nat×α)):List (Nat×α):=l.filter fun x=>!Aaa x.1 t
theorem Vta{a b:Nat}(h:a≠b):Aaa a b=false:=by
 cases hb:Aaa a b with
 | false=>rfl
 | true=>exact absurd (Aoa hb) h
theorem Xab{α:Type}(t:Nat)(v:α)(u:Nat):∀ (l:List (Nat×α)),lk (ins t v l) u=bif Aaa t u then some v else lk l u
 | []=>rfl
 | (k,x)::r=>by
  unfold ins;by_cases h:k=t;subst h;rw [Ala,Zfh];unfold lk;cases Aaa k u <;> rfl
  rw [Vta h,Zeh]
  cases Aba k t with
  | true=>rw [Zfh];rfl
  | false =>
   rw [Zeh];unfold lk;rw [Xab t v u r];by_cases hk:k=u;subst hk;rw [Ala,Zfh,Vta (fun e=>h e.symm)];rfl;rw [Vta hk,Zeh,Zeh]
theorem Yie{α:Type}(t u:Nat):∀ (l:List (Nat×α)),lk (del t l) u=bif Aaa t u then none else lk l u
 | []=>by unfold del lk;cases Aaa t u <;> rfl
 | (k,x)::r=>by
  have ih:=Yie t u r;unfold del at ih ⊢;rw [List.filter_cons];by_cases h:k=t;subst h;rw [if_neg Os,ih];show _=bif Aaa k u then none else bif Aaa k u then some x else lk r u;cases Aaa k u <;> rfl
  rw [if_pos (by simp [Vta h])];show (bif Aaa k u then some x else lk (List.filter (fun x=>!Aaa x.1 t) r) u)=bif Aaa t u then none else bif Aaa k u then some x else lk r u;rw [ih];by_cases hk:k=u;subst hk;rw [Ala,Zfh,Vta (fun e=>h e.symm)];rfl;rw [Vta hk,Zeh];cases Aaa t u <;> rfl
abbrev Sg:=List (Nat×AV)
def ent(ρ:Nat→Rv)(σ:Sg):List Ent:=σ.map fun x=>(x.1,e1 ρ x.2)
theorem Jba(ρ:Nat→Rv)(t:Nat):∀ (σ:Sg),look (ent ρ σ) t=(lk σ t).map (e1 ρ)
 | []=>rfl
 | (k,x)::r=>by
  have ih:=Jba ρ t r;unfold ent at ih ⊢;rw [Axa];unfold look lk;rw [ih];cases Aaa k t <;> rfl
theorem Znd{ρ ρ':Nat→Rv}{σ:Sg}{n d:Nat}{v:AV}{a:Act}{c:Prop}{u:Ga}(hσ:∀ t x,lk σ t=some x→e1 ρ' x=e1 ρ x)(hv:e1 ρ' v=(c,u))(h:Kn n ((d,c,u)::ent ρ σ) a):Kn n (ent ρ' (ins d v σ)) a:=by
 refine h.sub fun t c' x hl=>?_;rw [Jba,Xab] at hl;unfold look
 cases hb:Aaa d t with
 | true=>rw [hb,Zfh] at hl;rw [Zfh];rw [Aza,hv] at hl;exact hl
 | false =>
  rw [hb,Zeh] at hl;rw [Zeh,Jba]
  cases hq:lk σ t with
  | none=>rw [hq] at hl;cases hl
  | some y=>rw [hq,Aza,hσ t y hq] at hl;rw [Aza];exact hl
theorem Wed{ρ:Nat→Rv}{σ:Sg}{n d:Nat}{v:AV}{a:Act}(hd:Aba d n=true)(h:Kn n (ent ρ σ) a):Kn n (ent ρ (ins d v σ)) (a.put (some d) (vA ρ v)):=by
 refine Znd (fun _ _ _=>J) J (h.put hd (c:=(e1 ρ v).1) (v:=(e1 ρ v).2) (fun hc=>?_) (fun hc=>?_));cases v <;> first|rfl|exact hc.elim
 cases v <;> first|rfl|exact absurd trivial hc
/-! operands -/
def ofV0:Ga→Option A0
 | .int k x=>some (.i k x)
 | .bool x=>some (.b x)
 | .string s=>some (.s s.data.toList)
 | .pointer none=>some .n
 | .slice none 0 0=>some .e
 | _=>none
def allO{α β:Type}(f:α→Option β):List α→Option (List β)
 | []=>some []
 | x::r=>match f x,allO f r with
  | some y,some l=>some (y::l)
  | _,_=>none
theorem Uzd{α β:Type}{f:α→Option β}{g:β→α}(hf:∀ x y,f x=some y→g y=x):∀ {l:List α} {r:List β},allO f l=some r→r.map g=l
 | [],r,h=>by injection h with h;subst h;rfl
 | x::l,r,h=>by
  unfold allO at h;split at h;rename_i y l' h1 h2;injection h with h;subst h;rw [Axa,hf _ _ h1,Uzd hf h2];cases h
def ofV:Ga→Option A1
 | .agg cs=>(allO ofV0 cs.toList).map .g
 | v=>(ofV0 v).map .c
theorem Wqe{ρ:Nat→Rv}{v:Ga}{a:A0}(h:ofV0 v=some a):v0 ρ a=v:=by
 unfold ofV0 at h;split at h <;> first|cases h;rfl|cases h
theorem Yje{ρ:Nat→Rv}{v:Ga}{a:A1}(h:ofV v=some a):v1 ρ a=v:=by
 unfold ofV at h;split at h;rename_i cs;obtain ⟨l,h1,rfl⟩:=Ada.1 h;have:=Uzd (g:=v0 ρ) (fun x y=>Wqe) h1;show Value.agg (l.map (v0 ρ)).toArray=_;rw [this];obtain ⟨l,h1,rfl⟩:=Ada.1 h;exact Wqe h1
def oA(σ:Sg):Ea→Option AV
 | .tmp t=>match lk σ t with
  | some .u=>none
  | x=>x
 | .const v=>(ofV v).map .v
 | .func g=>some (.v (.c (.f g)))
 | .global _=>none
theorem Weg{ρ:Nat→Rv}{σ:Sg}{x:Ea}{v:AV}(h:oA σ x=some v):opv (ent ρ σ) x=some (True,vA ρ v):=by
 cases x with
 | tmp t =>
  have h:(match lk σ t with|some .u=>none|x=>x)=some v:=h;show look (ent ρ σ) t=_;rw [Jba];split at h;cases h;rename_i hn;rw [h]
  cases v with
  | u=>exact (hn h).elim
  | v a=>rfl
  | t l=>rfl
 | const c =>
  unfold oA at h;obtain ⟨a,h1,rfl⟩:=Ada.1 h;show some (True,c)=some (True,v1 ρ a);rw [Yje h1]
 | global g=>cases h
 | func g=>injection h with h;subst h;rfl
section
variable {ρ:Nat→Rv} {σ:Sg} {n:Nat} {c:Prop} {x:Ea}
theorem oE{v:AV}(h:oA σ x=some v):Ev n (ent ρ σ) c x (vA ρ v):=Jv (Weg h)
end
def bI(op:BinOp)(k:IntKind)(a b:Int):Option A0:=match op with
 | .add=>some (.i k (k.wrap (a+b)))
 | .sub=>some (.i k (k.wrap (a-b)))
 | .mul=>some (.i k (k.wrap (a*b)))
 | .eql=>some (.b (decide (a=b)))
 | .neq=>some (.b (!decide (a=b)))
 | .lss=>some (.b (decide (a<b)))
 | .leq=>some (.b (decide (a≤b)))
 | .gtr=>some (.b (decide (b<a)))
 | .geq=>some (.b (decide (b≤a)))
 | _=>none
def bS(op:BinOp)(a b:List UInt8):Option A0:=match op with
 | .eql=>some (.b (decide (a=b)))
 | .neq=>some (.b (!decide (a=b)))
 | _=>none
def a0(a:Option AV):Option A0:=match a with
 | some (.v (.c x))=>some x
 | _=>none
theorem Wfg{a:Option AV}{x:A0}(h:a0 a=some x):a=some (.v (.c x)):=by
 unfold a0 at h;split at h;injection h with h;subst h;rfl;cases h
def sS(l:List UInt8):Option A0→Option A0→Option A0
 | some (.i _ i),some (.i _ j)=>if 0≤i∧i≤j∧j≤l.length then some (.s ((l.drop i.toNat).take (j.toNat-i.toNat))) else none
 | _,_=>none
def Qgc(σ:Sg):List (Nat×Ea)→Option (List (Nat×A1))
 | []=>some []
 | (i,x)::r=>match oA σ x,Qgc σ r with
  | some (.v a),some l=>some ((i,a)::l)
  | _,_=>none
def fillA(pl:Nat→Option (Nat×Nat)):List A0→List (Nat×A1)→Option (List A0)
 | cs,[]=>some cs
 | cs,(i,v)::rest=>match pl i with
  | none=>none
  | some (off,z)=>if Aaa (cA v).length z&&Asa (off+z) cs.length then fillA pl (cs.take off++cA v++cs.drop (off+z)) rest else none
def pA(P:Fa)(σ:Sg):Op→Option AV
 | .move x=>oA σ x
 | .assign x=>oA σ x
 | .nilCheck x=>match a0 (oA σ x) with
  | some (.p k o)=>some (.v (.c (.p k o)))
  | _=>none
 | .pick c a b=>match a0 (oA σ c) with
  | some (.b q)=>oA σ (bif q then a else b)
  | _=>none
 | .unOp .not _ x=>match a0 (oA σ x) with
  | some (.b q)=>some (.v (.c (.b (!q))))
  | _=>none
 | .binOp op _ x y _=>match a0 (oA σ x),a0 (oA σ y) with
  | some (.i k a),some (.i q b)=>if k=q then (bI op k a b).map fun z=>.v (.c z) else none
  | some (.s a),some (.s b)=>(bS op a b).map fun z=>.v (.c z)
  | _,_=>none
 | .slice t x (some y) (some z) none=>match a0 (oA σ x) with
  | some (.s l)=>bif Vua P t then (sS l (a0 (oA σ y)) (a0 (oA σ z))).map fun z=>.v (.c z) else none
  | _=>none
 | .slice t x (some y) none none=>match a0 (oA σ x),a0 (oA σ y) with
  | some (.s l),some (.i _ i)=>if Vua P t=true∧0≤i∧i≤l.length then some (.v (.c (.s (l.drop i.toNat)))) else none
  | _,_=>none
 | .slice t x none (some z) none=>match a0 (oA σ x),a0 (oA σ z) with
  | some (.s l),some (.i _ j)=>if Vua P t=true∧0≤j∧j≤l.length then some (.v (.c (.s (l.take j.toNat)))) else none
  | _,_=>none
 | .fieldAddr s x j=>match Ym P s j,a0 (oA σ x) with
  | some d,some (.p k o)=>some (.v (.c (.p k (o+d))))
  | _,_=>none
 | .field s x j=>match Jab P s j,oA σ x with
  | some (off,none),some (.v (.g l))=>(l[off]?).map fun a=>.v (.c a)
  | some (off,some z),some (.v (.g l))=>some (.v (.g ((l.drop off).take z)))
  | _,_=>none
 | .indexAddr t x y=>match tyElem P t,a0 (oA σ x),a0 (oA σ y) with
  | some (_,z,_),some (.r k m),some (.i _ j)=>if 0≤j∧j<m then some (.v (.c (.p k (0+j.toNat*z)))) else none
  | _,_,_=>none
 | .index t x y=>match a0 (oA σ x),a0 (oA σ y) with
  | some (.s l),some (.i _ i)=>if Vua P t=true∧0≤i∧i<l.length then some (.v (.c (.i .u8 (l.getD i.toNat 0).toNat))) else none
  | _,_=>none
 | .extract x i=>match oA σ x with
  | some (.t l)=>(l[i]?).map .v
  | _=>none
 | .build t ps=>match zeroOf P t,Wg P t,Qgc σ ps.toList with
  | some z,some pl,some vs=>match ofV z with
   | some (.g zl)=>(fillA (fun i=>pl[i]?) zl vs).map fun l=>.v (.g l)
   | _=>none
  | _,_,_=>none
 | .call ⟨.builtin .len,⟨[x]⟩,⟨[t]⟩⟩=>match a0 (oA σ x) with
  | some (.s l)=>bif Vua P t then some (.v (.c (.i .i64 l.length))) else none
  | some (.r _ m)=>match tyElem P t with
   | some _=>some (.v (.c (.i .i64 m)))
   | none=>none
  | some .e=>match tyElem P t with
   | some _=>some (.v (.c (.i .i64 0)))
   | none=>none
  | _=>none
 | .call ⟨.builtin .max,⟨[x,y]⟩,_⟩=>match a0 (oA σ x),a0 (oA σ y) with
  | some (.i k a),some (.i _ b)=>some (.v (.c (.i k (if b>a then b else a))))
  | _,_=>none
 | _=>none
section
variable {P:Fa} {ρ:Nat→Rv} {σ:Sg} {n:Nat} {c:Prop} {wb:Aa} {ty:Ba}
theorem oC{x:Ea}{a:A0}(h:a0 (oA σ x)=some a):Ev n (ent ρ σ) c x (v0 ρ a):=oE (Wfg h)
theorem Vuf{x a b:Ea}{q:Bool}{v:Ga}(h:Ev n (ent ρ σ) c x (.bool q))(h1:Ev n (ent ρ σ) c (bif q then a else b) v):Rd P n (ent ρ σ) c wb (.pick x a b) ty v:=.mk fun d pos after gd f hf hc w1 _=>by
 cases q with
 | false=>rw [Zeh] at h1;simp [execOp,h f hf hc,asBool,h1 f hf hc]
 | true=>rw [Zfh] at h1;simp [execOp,h f hf hc,asBool,h1 f hf hc]
theorem Qhc:∀ {ps:List (Nat×Ea)} {vs:List (Nat×A1)},Qgc σ ps=some vs→Xja n (ent ρ σ) c ps.toArray (vs.map fun x=>(x.1,v1 ρ x.2))
 | [],vs,h=>by injection h with h;subst h;exact Up
 | (i,x)::r,vs,h=>by
  unfold Qgc at h;split at h;rename_i a l h1 h2;injection h with h;subst h;exact Uq (oE h1) (Qhc h2);cases h
theorem Qad(ρ:Nat→Rv)(pl:Nat→Option (Nat×Nat)):∀ (vs:List (Nat×A1)) (cs l:List A0),fillA pl cs vs=some l→Umb pl (cs.map (v0 ρ)) (vs.map fun x=>(x.1,v1 ρ x.2))=some (l.map (v0 ρ))
 | [],cs,l,h=>by injection h with h;subst h;rfl
 | (i,v)::rest,cs,l,h=>by
  unfold fillA at h;rw [Axa];unfold Umb;dsimp only;split at h;cases h;rename_i off z hp;simp only [hp];have hc:(v1 ρ v).cells.toList=(cA v).map (v0 ρ):=by rw [Vdb]
  rw [hc];split at h;rename_i hq;rw [if_pos (by simpa using hq)];have:=Qad ρ pl rest _ l h;simpa using this;cases h
theorem bI_ok{op:BinOp}{t u:Ba}{x y:Ea}{k:IntKind}{a b:Int}{z:A0}(h:bI op k a b=some z)(hx:Ev n (ent ρ σ) c x (.int k a))(hy:Ev n (ent ρ σ) c y (.int k b)):Rd P n (ent ρ σ) c wb (.binOp op t x y u) ty (v0 ρ z):=by
 unfold bI at h;split at h <;> cases h
 exact Qjf hx hy;exact Xae hx hy;exact Qkf hx hy;exact Wna hx hy;exact Woa hx hy;exact Jec hx hy;exact Xpg hx hy;exact Jfc hx hy;exact Jue hx hy
theorem bS_ok{op:BinOp}{t u:Ba}{x y:Ea}{a b:List UInt8}{z:A0}(h:bS op a b=some z)(hx:Ev n (ent ρ σ) c x (Str a))(hy:Ev n (ent ρ σ) c y (Str b)):Rd P n (ent ρ σ) c wb (.binOp op t x y u) ty (v0 ρ z):=by
 unfold bS at h;split at h <;> cases h
 exact Zxc hx hy;exact Jfd hx hy
theorem Wgg{op:Op}{v:AV}(h:pA P σ op=some v):Rd P n (ent ρ σ) c wb op ty (vA ρ v):=by
 unfold pA at h;split at h;exact Zw (oE h);exact Ji (oE h);split at h <;> cases h
 rename_i h1;exact Zxa (oC h1);split at h;rename_i h1;exact Vuf (oC h1) (oE h);cases h;split at h <;> cases h
 rename_i h1;exact Wzc (oC h1);split at h;rename_i h1 h2;split at h;rename_i hk;subst hk;obtain ⟨z,h3,rfl⟩:=Ada.1 h;exact bI_ok h3 (oC h1) (oC h2);cases h;rename_i h1 h2;obtain ⟨z,h3,rfl⟩:=Ada.1 h;exact bS_ok h3 (oC h1) (oC h2);cases h;split at h;rename_i h1
 cases ht:Vua P _ with
 | false=>rw [ht] at h;cases h
 | true =>
  rw [ht,Zfh] at h;obtain ⟨z,h3,rfl⟩:=Ada.1 h;unfold sS at h3;split at h3;rename_i h4 h5;split at h3;rename_i hr;injection h3 with h3;subst h3;exact Zyc ht (oC h1) (oC h4) (oC h5) fun _=>hr;cases h3;cases h3
 cases h;split at h;rename_i h1 h2;split at h;rename_i hr;injection h with h;subst h;exact Xqb hr.1 (oC h1) (oC h2) fun _=>hr.2;cases h;cases h;split at h;rename_i h1 h2;split at h;rename_i hr;injection h with h;subst h;exact Zzc hr.1 (oC h1) (oC h2) fun _=>hr.2;cases h;cases h;split at h;rename_i h1 h2;injection h with h;subst h;exact Zh h1 (oC h2);cases h;split at h;rename_i h1 h2;obtain ⟨a,h3,rfl⟩:=Ada.1 h;exact Jse h1 (oE h2) (by simp [h3];rfl);rename_i h1 h2;injection h with h;subst h;exact Jte (l:=_) h1 (oE h2) Os;cases h;split at h;rename_i h1 h2 h3;split at h;rename_i hr;injection h with h;subst h;exact Jva h1 (oC h2) (oC h3) fun _=>hr;cases h;cases h;split at h;rename_i h1 h2;split at h;rename_i hr;injection h with h;subst h;exact Jcb hr.1 (oC h1) (oC h2) fun _=>hr.2;cases h;cases h;split at h;rename_i h1;obtain ⟨a,h3,rfl⟩:=Ada.1 h;exact Qga (oE h1) (by simp [h3];rfl);cases h;split at h;rename_i h1 h2 h3;split at h;rename_i h4;obtain ⟨l,h5,rfl⟩:=Ada.1 h;have hz:=Yje (ρ:=ρ) h4;exact Qt _ h1 (by rw [← hz];rfl) h2 (by simpa using Qhc h3) (Qad ρ _ _ _ _ h5);cases h;cases h;split at h;rename_i h1
 cases ht:Vua P _ with
 | false=>rw [ht] at h;cases h
 | true=>rw [ht,Zfh] at h;injection h with h;subst h;exact Jbb ht (oC h1)
 rename_i h1;split at h <;> cases h
 rename_i h2;exact Qha h2 (oC h1);rename_i h1;split at h <;> cases h
 rename_i h2;exact Qha h2 (oC h1);cases h;split at h;rename_i h1 h2;injection h with h;subst h;exact Vcg (oC h1) (oC h2);cases h;cases h
end
structure Am where
   nx:Nat
   m:List (Nat×AB)
 deriving DecidableEq
def us0(p:Nat→Bool):A0→Bool
 | .p k _=>p k
 | .r k _=>p k
 | _=>true
def us1(p:Nat→Bool):A1→Bool
 | .c a=>us0 p a
 | .g l=>l.all (us0 p)
def usV(p:Nat→Bool):AV→Bool
 | .v a=>us1 p a
 | .t l=>l.all (us1 p)
 | .u=>true
section
variable {ρ ρ':Nat→Rv} {p:Nat→Bool}
theorem Vvf(h:∀ k,p k=true→ρ' k = ρ k){a:A0}(ha:us0 p a=true):v0 ρ' a=v0 ρ a:=by
 cases a with
 | p k o=>show Value.pointer (some ⟨(ρ' k).b,o,none⟩)=_;rw [h k ha];rfl
 | r k m=>show Ha (some ⟨(ρ' k).b,0,none⟩) m (ρ' k).c=_;rw [h k ha];rfl
 | _=>rfl
theorem Qic(h:∀ k,p k=true→ρ' k = ρ k){l:List A0}(ha:l.all (us0 p)=true):l.map (v0 ρ')=l.map (v0 ρ) :=
 Bha fun a hm=>Vvf h (Aca.1 ha a hm)
theorem Vwf(h:∀ k,p k=true→ρ' k = ρ k){a:A1}(ha:us1 p a=true):v1 ρ' a=v1 ρ a:=by
 cases a with
 | c a=>exact Vvf h ha
 | g l=>show Value.agg _=Value.agg _;rw [Qic h ha]
theorem Upg(h:∀ k,p k=true→ρ' k = ρ k){a:AV}(ha:usV p a=true):e1 ρ' a=e1 ρ a:=by
 cases a with
 | v a=>show (True,v1 ρ' a)=(True,v1 ρ a);rw [Vwf h ha]
 | t l=>show (True,Value.tuple _)=(True,Value.tuple _);rw [Bha fun a hm=>Vwf h (Aca.1 ha a hm)]
 | u=>rfl
theorem Ybb{q:Nat→Bool}(h:∀ k,p k=true→q k=true){a:A0}(ha:us0 p a=true):us0 q a=true:=by
 cases a <;> first|rfl|exact h _ ha
theorem Qbd{q:Nat→Bool}(h:∀ k,p k=true→q k=true){a:A1}(ha:us1 p a=true):us1 q a=true:=by
 cases a with
 | c a=>exact Ybb h ha
 | g l=>exact Aca.2 fun a hm=>Ybb h (Aca.1 ha a hm)
theorem Qcd{q:Nat→Bool}(h:∀ k,p k=true→q k=true){a:AV}(ha:usV p a=true):usV q a=true:=by
 cases a with
 | v a=>exact Qbd h ha
 | t l=>exact Aca.2 fun a hm=>Qbd h (Aca.1 ha a hm)
 | u=>rfl
end
def AbOk(N0:Nat)(ρ:Nat→Rv)(w:Aa)(k:Nat)(B:AB):Prop :=
 N0≤(ρ k).b∧match B.q with
 | none=>Blk w (ρ k).b B.e (B.l.map (v0 ρ))
 | some (z,m)=>w.ownsRow N0 B.e z (.slice (some ⟨(ρ k).b,0,none⟩) m (ρ k).c) m (B.l.map (v0 ρ))∧w.heap[(ρ k).b]? = (ρ k).h
theorem Jde{w w':Aa}{N0 e z b m c:Nat}{xs:List Ga}(h:w.ownsRow N0 e z (.slice (some ⟨b,0,none⟩) m c) m xs)(hh:w'.heap[b]? = w.heap[b]?):w'.ownsRow N0 e z (.slice (some ⟨b,0,none⟩) m c) m xs:=by
 refine ⟨h.1,?_⟩;rcases h.2 with ⟨h1,_⟩|⟨g,cap,cur,h1,h2,h3,h4⟩;cases h1;injection h1 with h1 _ hc;injection h1 with h1;injection h1 with h1 _ _;subst h1 hc;exact .inr ⟨b,c,cur,rfl,h2,hh.trans h3,h4⟩
theorem Yrg{w:Aa}{N0 e z b m c:Nat}{xs:List Ga}(h:w.ownsRow N0 e z (.slice (some ⟨b,0,none⟩) m c) m xs):b<w.heap.size:=by
 rcases h.2 with ⟨h1,_⟩|⟨g,cap,cur,h1,h2,h3,h4⟩;cases h1;injection h1 with h1 _ _;injection h1 with h1;injection h1 with h1 _ _;subst h1;exact (Array.getElem?_eq_some_iff.1 h3).1
theorem Vxf{w:Aa}{N0 e z b m c:Nat}{xs:List Ga}(h:w.ownsRow N0 e z (.slice (some ⟨b,0,none⟩) m c) m xs):RowAt w b 0 xs:=by
 rcases h.2 with ⟨h1,_⟩|⟨g,cap,cur,h1,h2,h3,_,_,h5,h6⟩;cases h1;injection h1 with h1 _ _;injection h1 with h1;injection h1 with h1 _ _;subst h1;intro j v hj;rw [← h6,Bia] at hj;split at hj;simp [World.cell?,h3];simpa using hj;cases hj
section
variable {N0:Nat} {ρ ρ':Nat→Rv} {w w':Aa} {k:Nat} {B:AB}
theorem AbOk.heap(h:AbOk N0 ρ w k B)(hh:w'.heap[(ρ k).b]? = w.heap[(ρ k).b]?):AbOk N0 ρ w' k B:=by
 obtain ⟨e,q,l⟩:=B
 cases q with
 | none=>exact ⟨h.1,hh.trans h.2⟩
 | some q=>exact ⟨h.1,Jde h.2.1 hh,hh.trans h.2.2⟩
theorem AbOk.lt(h:AbOk N0 ρ w k B):(ρ k).b<w.heap.size:=by
 obtain ⟨e,q,l⟩:=B
 cases q with
 | none=>exact Blk.lt h.2
 | some q=>exact Yrg h.2.1
theorem AbOk.row(h:AbOk N0 ρ w k B):RowAt w (ρ k).b 0 (B.l.map (v0 ρ)):=by
 obtain ⟨e,q,l⟩:=B
 cases q with
 | none=>exact Blk.row h.2
 | some q=>exact Vxf h.2.1
theorem AbOk.to(h:AbOk N0 ρ w k B)(hk:ρ' k = ρ k)(hl:B.l.map (v0 ρ')=B.l.map (v0 ρ)):AbOk N0 ρ' w k B:=by
 obtain ⟨e,q,l⟩:=B;unfold AbOk at h ⊢;dsimp only at hl h ⊢;rw [hk,hl];exact h
theorem AbOk.same(h:AbOk N0 ρ w k B)(h':AbOk N0 ρ' w' k B)(hk:ρ' k = ρ k)(hl:B.l.map (v0 ρ')=B.l.map (v0 ρ)):w'.heap[(ρ k).b]? = w.heap[(ρ k).b]?:=by
 obtain ⟨e,q,l⟩:=B
 cases q with
 | none =>
  have h1:w.heap[(ρ k).b]? = _:=h.2;have h2:w'.heap[(ρ' k).b]? = _:=h'.2;dsimp only at h1 h2 hl;rw [hk,hl] at h2;rw [h1,h2]
 | some q =>
  have h1:=h.2.2;have h2:=h'.2.2;rw [hk] at h2;rw [h1,h2]
end
structure Inv (w0:Aa) (ρ:Nat→Rv) (s:Am) (w:Aa):Prop where
  g:G w0 w
  ok:∀ k B,lk s.m k=some B→AbOk w0.heap.size ρ w k B
  wf:∀ k B,lk s.m k=some B→Aba k s.nx=true∧B.l.all (us0 fun j=>Aba j s.nx)=true
  ne:∀ k k' B B',lk s.m k=some B→lk s.m k'=some B'→k≠k'→(ρ k).b≠(ρ k').b
def Ws(σ:Sg)(n:Nat):Prop:=∀ t x,lk σ t=some x→usV (fun j=>Aba j n) x=true
structure Fre (id:Nat) (σ:Sg) (m:List (Nat×AB)):Prop where
  s:∀ t x,lk σ t=some x→usV (fun j=>!Aaa j id) x=true
  m:∀ k B,lk m k=some B→Aaa k id=false∧B.l.all (us0 fun j=>!Aaa j id)=true
def Agr1(n id:Nat)(ρ ρ':Nat→Rv):Prop:=∀ k,(Aba k n && !Aaa k id)=true→ρ' k = ρ k
theorem Wre{p q:Nat→Bool}{a:A0}(h:us0 p a=true)(h':us0 q a=true):us0 (fun j=>p j&&q j) a=true:=by
 cases a <;> first|rfl|exact Aka.2 ⟨h,h'⟩
theorem Wfd{p q:Nat→Bool}{l:List A0}(h:l.all (us0 p)=true)(h':l.all (us0 q)=true):l.all (us0 fun j=>p j&&q j)=true :=
 Aca.2 fun a hm=>Wre (Aca.1 h a hm) (Aca.1 h' a hm)
theorem Wse{p q:Nat→Bool}{a:A1}(h:us1 p a=true)(h':us1 q a=true):us1 (fun j=>p j&&q j) a=true:=by
 cases a with
 | c a=>exact Wre h h'
 | g l=>exact Wfd h h'
theorem Ysg{p q:Nat→Bool}{a:AV}(h:usV p a=true)(h':usV q a=true):usV (fun j=>p j&&q j) a=true:=by
 cases a with
 | v a=>exact Wse h h'
 | t l=>exact Aca.2 fun a hm=>Wse (Aca.1 h a hm) (Aca.1 h' a hm)
 | u=>rfl
section
variable {w0 w w':Aa} {ρ ρ':Nat→Rv} {s:Am} {σ:Sg} {id:Nat}
theorem Ws.to(hw:Ws σ s.nx)(hf:Fre id σ s.m)(h:Agr1 s.nx id ρ ρ'):∀ t x,lk σ t=some x→e1 ρ' x=e1 ρ x:=fun t x hl=>Upg h (Ysg (hw t x hl) (hf.s t x hl))
theorem Inv.lt(hi:Inv w0 ρ s w){k:Nat}{B:AB}(hl:lk s.m k=some B):(ρ k).b<w.heap.size:=(hi.ok k B hl).lt
theorem Inv.at'(hi:Inv w0 ρ s w)(hf:Fre id σ s.m)(h:Agr1 s.nx id ρ ρ'){k:Nat}{B:AB}(hl:lk s.m k=some B):ρ' k = ρ k∧B.l.map (v0 ρ')=B.l.map (v0 ρ) :=
 ⟨h k (by rw [(hi.wf k B hl).1,(hf.m k B hl).1];rfl),Qic h (Wfd (hi.wf k B hl).2 (hf.m k B hl).2)⟩
def upd(ρ:Nat→Rv)(id:Nat)(x:Rv)(k:Nat):Rv:=bif Aaa k id then x else ρ k
theorem Yke(ρ:Nat→Rv)(id:Nat)(x:Rv):upd ρ id x id=x:=by unfold upd;rw [Ala];rfl
theorem Wuc(ρ:Nat→Rv)(n id:Nat)(x:Rv):Agr1 n id ρ (upd ρ id x):=fun k h=>by
 unfold upd
 cases hb:Aaa k id with
 | true=>rw [hb] at h;simp at h
 | false=>rfl
theorem Inv.new(hi:Inv w0 ρ s w)(hf:Fre id σ s.m)(hid:Aba id s.nx=true){b e c:Nat}{h:Option Obj}{l:List A0}(N:New w w' b e (l.map (v0 ρ)))(hl:l.all (us0 fun j=>Aba j s.nx && !Aaa j id)=true) :
 Inv w0 (upd ρ id ⟨b,c,h⟩) ⟨s.nx,ins id ⟨e,none,l⟩ s.m⟩ w':=by
 have hA:=Wuc ρ s.nx id ⟨b,c,h⟩;have hu:=Yke ρ id ⟨b,c,h⟩;have hlr:=Qic hA hl;have hat:=N.at_;have hg:=hi.g.size
 have nw:∀ k B,lk (ins id (⟨e,none,l⟩:AB) s.m) k=some B→k≠id→lk s.m k=some B:=fun k B hk hne=>by
  rw [Xab,Vta (fun e=>hne e.symm)] at hk;exact hk
 have new:∀ B,lk (ins id (⟨e,none,l⟩:AB) s.m) id=some B→B=⟨e,none,l⟩:=fun B hk=>by
  rw [Xab,Ala] at hk;injection hk with hk;exact hk.symm
 refine ⟨hi.g.trans N.g,fun k B hk=>?_,fun k B hk=>?_,fun k k' B B' hk hk' hne=>?_⟩;by_cases hq:k=id;subst hq;rw [new B hk];refine ⟨by rw [hu];show w0.heap.size≤b;omega,?_⟩;show Blk w' (upd ρ k ⟨b,c,h⟩ k).b e (l.map (v0 (upd ρ k ⟨b,c,h⟩)));rw [hu,hlr];exact N.blk;have hk:=nw k B hk hq;obtain ⟨h1,h2⟩:=hi.at' hf hA hk;exact ((hi.ok k B hk).heap (N.g.block (hi.lt hk))).to h1 h2;by_cases hq:k=id;subst hq;rw [new B hk];exact ⟨hid,Aca.2 fun a hm=>Ybb (fun j hj=>(Aka.1 hj).1) (Aca.1 hl a hm)⟩;exact hi.wf k B (nw k B hk hq);by_cases hq:k=id;subst hq;have hk':=nw k' B' hk' (fun e=>hne e.symm);rw [hu,(hi.at' hf hA hk').1];have:=hi.lt hk';show b≠_;omega;have hk0:=nw k B hk hq;rw [(hi.at' hf hA hk0).1];by_cases hq':k'=id;subst hq';rw [hu];have:=hi.lt hk0;show _≠b;omega;have hk':=nw k' B' hk' hq';rw [(hi.at' hf hA hk').1];exact hi.ne k k' B B' hk0 hk' hne
theorem Inv.set(hi:Inv w0 ρ s w){k e:Nat}{l l':List A0}(hk:lk s.m k=some ⟨e,none,l⟩)(hg:w.grownBy w' (some (ρ k).b))(hB:Blk w' (ρ k).b e (l'.map (v0 ρ)))(hl:l'.all (us0 fun j=>Aba j s.nx)=true) :
 Inv w0 ρ ⟨s.nx,ins k ⟨e,none,l'⟩ s.m⟩ w':=by
 have h0:=(hi.ok k _ hk).1
 have nw:∀ j B,lk (ins k (⟨e,none,l'⟩:AB) s.m) j=some B→j≠k→lk s.m j=some B:=fun j B hj hne=>by
  rw [Xab,Vta (fun e=>hne e.symm)] at hj;exact hj
 have new:∀ B,lk (ins k (⟨e,none,l'⟩:AB) s.m) k=some B→B=⟨e,none,l'⟩:=fun B hj=>by
  rw [Xab,Ala] at hj;injection hj with hj;exact hj.symm
 have dom:∀ j B,lk (ins k (⟨e,none,l'⟩:AB) s.m) j=some B→∃ B,lk s.m j=some B:=fun j B hj=>by
  by_cases hq:j=k;subst hq;exact ⟨_,hk⟩;exact ⟨B,nw j B hj hq⟩
 refine ⟨Yq hi.g hg h0,fun j B hj=>?_,fun j B hj=>?_,fun j j' B B' hj hj' hne=>?_⟩;by_cases hq:j=k;subst hq;rw [new B hj];exact ⟨h0,hB⟩;have hj:=nw j B hj hq;exact (hi.ok j B hj).heap (hg.block _ (hi.lt hj) fun q=>by injection q with q;exact hi.ne j k B _ hj hk hq q);by_cases hq:j=k;subst hq;rw [new B hj];exact ⟨(hi.wf j _ hk).1,hl⟩;exact hi.wf j B (nw j B hj hq);obtain ⟨B,hj⟩:=dom j B hj;obtain ⟨B',hj'⟩:=dom j' B' hj';exact hi.ne j j' B B' hj hj' hne
theorem Inv.app(hi:Inv w0 ρ s w)(hf:Fre id σ s.m)(hid:Aba id s.nx=true){m':List (Nat×AB)}(hm:∀ k B,lk m' k=some B→lk s.m k=some B){row:Option Nat}(hg:w.grownBy w' row)(hr:∀ k,row=some k→w0.heap.size≤k)
 (hrow:∀ k B,lk m' k=some B→some (ρ k).b≠row) {b e z m c:Nat} {l:List A0} (hO:w'.ownsRow w0.heap.size e z (.slice (some ⟨b,0,none⟩) m c) m (l.map (v0 ρ))) (hb:row=some b∨b=w.heap.size) (hl:l.all (us0 fun j=>Aba j s.nx && !Aaa j id)=true) :
 Inv w0 (upd ρ id ⟨b,c,w'.heap[b]?⟩) ⟨s.nx,ins id ⟨e,some (z,m),l⟩ m'⟩ w':=by
 have hA:=Wuc ρ s.nx id ⟨b,c,w'.heap[b]?⟩;have hu:=Yke ρ id ⟨b,c,w'.heap[b]?⟩;have hlr:=Qic hA hl;have hgs:=hi.g.size
 have nw:∀ k B,lk (ins id (⟨e,some (z,m),l⟩:AB) m') k=some B→k≠id→lk m' k=some B:=fun k B hk hne=>by
  rw [Xab,Vta (fun e=>hne e.symm)] at hk;exact hk
 have new:∀ B,lk (ins id (⟨e,some (z,m),l⟩:AB) m') id=some B→B=⟨e,some (z,m),l⟩:=fun B hk=>by
  rw [Xab,Ala] at hk;injection hk with hk;exact hk.symm
 have far:∀ k B,lk m' k=some B→(ρ k).b≠b:=fun k B hk q=>by
  rcases hb with hb|hb;exact hrow k B hk (by rw [hb,q]);have:=hi.lt (hm k B hk);omega
 refine ⟨Below.grown hi.g hg hi.g.size hr,fun k B hk=>?_,fun k B hk=>?_,fun k k' B B' hk hk' hne=>?_⟩;by_cases hq:k=id;subst hq;rw [new B hk];refine ⟨?_,?_⟩;rw [hu];rcases hb with hb|hb;exact hr _ hb;show w0.heap.size≤b;omega;show w'.ownsRow w0.heap.size e z (.slice (some ⟨(upd ρ k ⟨b,c,w'.heap[b]?⟩ k).b,0,none⟩) m (upd ρ k ⟨b,c,w'.heap[b]?⟩ k).c) m (l.map (v0 (upd ρ k ⟨b,c,w'.heap[b]?⟩)))∧w'.heap[(upd ρ k ⟨b,c,w'.heap[b]?⟩ k).b]? = (upd ρ k ⟨b,c,w'.heap[b]?⟩ k).h;rw [hu,hlr];exact ⟨hO,rfl⟩;have hk:=nw k B hk hq;obtain ⟨h1,h2⟩:=hi.at' hf hA (hm k B hk);exact ((hi.ok k B (hm k B hk)).heap (hg.block _ (hi.lt (hm k B hk)) (hrow k B hk))).to h1 h2;by_cases hq:k=id;subst hq;rw [new B hk];exact ⟨hid,Aca.2 fun a hm=>Ybb (fun j hj=>(Aka.1 hj).1) (Aca.1 hl a hm)⟩;exact hi.wf k B (hm k B (nw k B hk hq));by_cases hq:k=id;subst hq;have hk':=nw k' B' hk' (fun e=>hne e.symm);rw [hu,(hi.at' hf hA (hm _ _ hk')).1];exact fun q=>far k' B' hk' q.symm;have hk0:=nw k B hk hq;rw [(hi.at' hf hA (hm _ _ hk0)).1];by_cases hq':k'=id;subst hq';rw [hu];exact far k B hk0;have hk':=nw k' B' hk' hq';rw [(hi.at' hf hA (hm _ _ hk')).1];exact hi.ne k k' B B' (hm _ _ hk0) (hm _ _ hk') hne
end
def lA(P:Fa)(σ:Sg)(m:List (Nat×AB)):Op→Option (A1×Nat)
 | .load t x=>match a0 (oA σ x) with
  | some (.p k o)=>match lk m k with
   | some B=>bif Wv P t then (B.l[o]?).map fun a=>(.c a,k) else match tyAgg P t with
    | some z=>if o+z≤B.l.length then some (.g ((B.l.drop o).take z),k) else none
    | none=>none
   | none=>none
  | _=>none
 | _=>none
def Wgd(z:Nat):Nat→List (Nat×A1)→Option (List A0)
 | _,[]=>some []
 | k,(i,v)::rest=>if Aaa i k&&Aaa (cA v).length z then (Wgd z (k+1) rest).map (cA v ++ ·) else none
def rowA(e z:Nat)(m:List (Nat×AB)):A0→Option (Nat×List A0×List (Nat×AB))
 | .e=>some (0,[],m)
 | .r k j=>match lk m k with
  | some ⟨e',some (z',j'),l⟩=>if e'=e∧z'=z∧j'=j then some (j,l,del k m) else none
  | _=>none
 | _=>none
def eA(P:Fa)(cf:Nat→List AV→Am→Option (AV×Am))(σ:Sg)(s:Am)(id:Nat):Op→Option (AV×Am)
 | .alloc e=>match zeroOf P e with
  | some z=>match ofV z with
   | some a=>bif (cA a).all (us0 fun j=>Aba j s.nx && !Aaa j id) then some (.v (.c (.p id 0)),⟨s.nx,ins id ⟨e,none,cA a⟩ s.m⟩) else none
   | none=>none
  | none=>none
 | .box e x=>match oA σ x with
  | some (.v a)=>bif (cA a).all (us0 fun j=>Aba j s.nx && !Aaa j id) then some (.v (.c (.p id 0)),⟨s.nx,ins id ⟨e,none,cA a⟩ s.m⟩) else none
  | _=>none
 | .store t x y=>match a0 (oA σ x),oA σ y,tySize P t with
  | some (.p k o),some (.v a),some z=>match lk s.m k with
   | some ⟨e,none,l⟩=>if (cA a).length=z∧o+(cA a).length≤l.length∧(l.take o++cA a++l.drop (o+(cA a).length)).all (us0 fun j=>Aba j s.nx)=true then
     some (.u,⟨s.nx,ins k ⟨e,none,l.take o++cA a++l.drop (o+(cA a).length)⟩ s.m⟩) else none
   | _=>none
  | _,_,_=>none
 | .buildSlice t m ps=>match tyElem P t,Qgc σ ps.toList with
  | some (e,z,_),some vs=>match zeroOf P e,Wgd z 0 vs with
   | some _,some l=>bif (Asa (m*z) 16777216 && !Aaa (m*z) 0&&Aaa vs.length m)&&(l.all (us0 fun j=>Aba j s.nx && !Aaa j id)&&(Aaa l.length (m*z)&&Asa m 1000000)) then some (.v (.c (.r id m)),⟨s.nx,ins id ⟨e,some (z,m),l⟩ s.m⟩) else none
   | _,_=>none
  | _,_=>none
 | .convert a b x=>match Jgc P a,Jgc P b,a0 (oA σ x) with
  | some _,some k,some (.i _ y)=>some (.v (.c (.i k (k.wrap y))),s)
  | _,_,_=>none
 | .call ⟨.value f,xs,_⟩=>match a0 (oA σ f),allO (oA σ) xs.toList with
  | some (.f g),some vs=>bif goFn P g then match cf g vs s with|some (.u,_)=>none|r=>r else none
  | _,_=>none
 | .call ⟨.builtin .append,⟨[x,y]⟩,⟨[t,t']⟩⟩=>match tyElem P t,a0 (oA σ x),a0 (oA σ y) with
  | some (e,z,by_),some X,some (.r k2 q)=>match zeroOf P e,lk s.m k2,rowA e z s.m X with
   | some zv,some B2,some (m,l,mm)=>if (t'=t∧zv.cells.size=z∧0<z∧0<q)∧(B2.l.length=q*z∧m+q≤maxLen∧(m+q)*by_≤140737488355328)∧(l++B2.l).all (us0 fun j=>Aba j s.nx && !Aaa j id)=true then
     some (.v (.c (.r id (m+q))),⟨s.nx,ins id ⟨e,some (z,m+q),l++B2.l⟩ mm⟩) else none
   | _,_,_=>none
  | _,_,_=>none
 | _=>none
def okD(n:Nat):Option Nat→AV→Bool
 | none,.u=>true
 | some t,.v _=>Aba t n
 | some t,.t _=>Aba t n
 | _,_=>false
def setS(d:Option Nat)(v:AV)(σ:Sg):Sg:=match d with
 | some t=>ins t v σ
 | none=>σ
def CfOk(P:Fa)(w0:Aa)(cf:Nat→List AV→Am→Option (AV×Am)):Prop:=∀ g vs s v s',cf g vs s=some (v,s')→∀ ρ w,Inv w0 ρ s w→(∀ x∈vs,usV (fun j=>Aba j s.nx) x=true)→
 Ret P g (vs.map (vA ρ)).toArray w fun r w'=>∃ ρ',(∀ k,Aba k s.nx=true→ρ' k = ρ k)∧Inv w0 ρ' s' w'∧r=vA ρ' v
theorem Qea{P:Fa}{Z:List Da→Act→Aa→Prop}{d:Option Nat}{op:Op}{ty:Ba}{pos:String}{after:Array Edge}{g:Option (Nat×Bool)}{σ:List Ent}{n:Nat}{w:Aa}{K:Act→Aa→Prop}{a:Act}
 (h:SR P Z [⟨d,op,ty,pos,after,none⟩] [2] [] w n K 0 [⟨d,op,ty,pos,after,none⟩] σ w) (ha:Kn n σ a):Eff P Z false ⟨d,op,ty,pos,after,g⟩ a w K:=by
 obtain ⟨o,ho,hb⟩:=h.h (fun j o h=>by simpa using h) a ha;obtain rfl:(⟨d,op,ty,pos,after,none⟩:Oper)=o:=Option.some.inj ho;rw [if_neg (by intro h;rcases h with h|h <;> cases h),if_pos Zdb] at hb
 exact hb
section
variable {P:Fa} {w0 w:Aa} {ρ:Nat→Rv} {s s':Am} {σ:Sg} {id n:Nat} {c:Prop}
theorem Wte{b:Nat}{L:List A0}(h:RowAt w b 0 (L.map (v0 ρ)))(o z:Nat):RowAt w b o (((L.drop o).take z).map (v0 ρ)):=fun j v hj=>by
 have:=h (o+j) v (by
  rw [List.getElem?_map] at hj ⊢;rw [Bia] at hj;split at hj;rw [List.getElem?_drop] at hj;exact hj;cases hj)
 rwa [Ara] at this
theorem Whg{op:Op}{v:A1}{k:Nat}{m:List (Nat×AB)}(h:lA P σ m op=some (v,k)):∃ B,lk m k=some B∧∀ {N0:Nat} {w:Aa} {ty:Ba},AbOk N0 ρ w k B→Rd P n (ent ρ σ) c w op ty (v1 ρ v):=by
 unfold lA at h;split at h;split at h;rename_i h1;split at h;rename_i B h2
 cases ht:Wv P _ with
 | true =>
  rw [ht,Zfh] at h;obtain ⟨a,h3,h4⟩:=Ada.1 h;injection h4 with h4 h5;subst h4 h5;refine ⟨B,h2,fun hB=>Zt ht (oC h1) fun _=>?_⟩;have:=hB.row _ (v0 ρ a) (by rw [List.getElem?_map,h3];rfl);rwa [Ara] at this
 | false =>
  rw [ht,Zeh] at h;split at h;rename_i z h3;split at h;rename_i hz;injection h with h;injection h with h4 h5;subst h4 h5;exact ⟨B,h2,fun hB=>Zo h3 (oC h1) (by rw [Aia,Aua,List.length_drop];omega) fun _=>Wte hB.row _ _⟩;cases h;cases h
 cases h;cases h;cases h
theorem Zod(ρ:Nat→Rv)(z:Nat):∀ (vs:List (Nat×A1)) (k:Nat) (l:List A0),Wgd z k vs=some l→Xtc z k (vs.map fun x=>(x.1,v1 ρ x.2))=some (l.map (v0 ρ))
 | [],k,l,h=>by injection h with h;subst h;rfl
 | (i,v)::rest,k,l,h=>by
  unfold Wgd at h;have hc:(v1 ρ v).cells.toList=(cA v).map (v0 ρ):=by rw [Vdb]
  split at h;rename_i hq;obtain ⟨l',h1,rfl⟩:=Ada.1 h;rw [Axa];unfold Xtc;dsimp only;rw [hc,if_pos (by simpa using hq),Zod ρ z rest _ l' h1];simp;cases h
theorem Wue:∀ {xs:List Ea} {vs:List AV},allO (oA σ) xs=some vs→Xca n (ent ρ σ) c xs (vs.map (vA ρ))
 | [],vs,h=>by injection h with h;subst h;exact Xw
 | x::r,vs,h=>by
  unfold allO at h;split at h;rename_i y l h1 h2;injection h with h;subst h;exact Yn (oE h1) (Wue h2);cases h
theorem Wve{p:Nat→Bool}(hw:∀ t x,lk σ t=some x→usV p x=true):∀ {xs:List Ea} {vs:List AV},(∀ x v,oA σ x=some v→usV p v=true)→allO (oA σ) xs=some vs→∀ x∈vs,usV p x=true
 | [],vs,_,h=>by injection h with h;subst h;exact fun x hx=>by cases hx
 | x::r,vs,ho,h=>by
  unfold allO at h;split at h;rename_i y l h1 h2;injection h with h;subst h
  exact fun z hz=>by
   rcases Aja.1 hz with rfl|hz;exact ho _ _ h1;exact Wve hw ho h2 z hz
  cases h
theorem Wwe{p:Nat→Bool}{v:Ga}{a:A0}(h:ofV0 v=some a):us0 p a=true:=by
 unfold ofV0 at h;split at h <;> first|cases h;rfl|cases h
theorem Qdd{α β:Type}{f:α→Option β}{q:β→Bool}(hf:∀ x y,f x=some y→q y=true):∀ {l:List α} {r:List β},allO f l=some r→r.all q=true
 | [],r,h=>by injection h with h;subst h;rfl
 | x::l,r,h=>by
  unfold allO at h;split at h;rename_i y l' h1 h2;injection h with h;subst h;rw [List.all_cons,hf _ _ h1,Qdd hf h2];rfl;cases h
theorem Uqg{p:Nat→Bool}{v:Ga}{a:A1}(h:ofV v=some a):us1 p a=true:=by
 unfold ofV at h;split at h;obtain ⟨l,h1,rfl⟩:=Ada.1 h;exact Qdd (fun x y=>Wwe) h1;obtain ⟨l,h1,rfl⟩:=Ada.1 h;exact Wwe h1
theorem oA_us{p:Nat→Bool}(hw:∀ t x,lk σ t=some x→usV p x=true){x:Ea}{v:AV}(h:oA σ x=some v):usV p v=true:=by
 cases x with
 | tmp t =>
  have h:(match lk σ t with|some .u=>none|x=>x)=some v:=h;split at h;cases h;exact hw t v h
 | const u =>
  obtain ⟨a,h1,rfl⟩:=Ada.1 h;exact Uqg h1
 | global g=>cases h
 | func g=>injection h with h;subst h;rfl
theorem Vyf{f:Ea}{g:Nat}{xs:Array Ea}{ats:Array Ba}{vs:List Ga}{τ:List Ent}{ty:Ba}(hq:goFn P g=true)(h:Ev n τ c f (.func (.func g) #[] #[]))(hx:Xca n τ c xs.toList vs):RunC P n τ c w (.call ⟨.value f,xs,ats⟩) ty g vs.toArray:=by
 have:=Zy (w:=w) (ty:=ty) (ats:=ats) hq h hx (args:=vs.toArray) Os;simpa using this
def Aft(P:Fa)(w0:Aa)(ρ:Nat→Rv)(s:Am)(id n:Nat)(σ':Sg)(s':Am)(a':Act)(w':Aa):Prop:=∃ ρ',Agr1 s.nx id ρ ρ'∧Inv w0 ρ' s' w'∧Kn n (ent ρ' σ') a'
theorem hb2{d n:Nat}(hd:Aba d n=true):(!Aaa (clOf [2] 0) 0 && !Aaa (clOf [2] 0) 3&&Aba d n)=true:=by rw [hd];rfl
theorem Wig{cf:Nat→List AV→Am→Option (AV×Am)}{Z:List Da→Act→Aa→Prop}{op:Op}{v:AV}{d:Option Nat}{ty:Ba}{pos:String}{after:Array Edge}{g:Option (Nat×Bool)}{a:Act}(hcf:CfOk P w0 cf)(h:eA P cf σ s id op=some (v,s'))(hd:okD n d v=true)(hi:Inv w0 ρ s w)(hw:Ws σ s.nx)(hf:Fre id σ s.m)
 (hid:Aba id s.nx=true) (ha:Kn n (ent ρ σ) a):Eff P Z false ⟨d,op,ty,pos,after,g⟩ a w (Aft P w0 ρ s id n (setS d v σ) s'):=by
 have tE:=fun (x:Rv)=>hw.to hf (Wuc ρ s.nx id x);have tA:=fun (x:Rv)=>Wuc ρ s.nx id x;have tU:=fun (x:Rv)=>Yke ρ id x;unfold eA at h;split at h;split at h;split at h;rename_i z h1 y e1 h2
 cases hq:(cA e1).all (us0 fun j=>Aba j s.nx && !Aaa j id) with
 | false=>rw [hq] at h;cases h
 | true =>
  rw [hq,Zfh] at h;injection h with h;injection h with h3 h4;subst h3 h4
  cases d with
  | none=>cases hd
  | some t =>
   refine Qea (Yt (l:=(cA e1).map (v0 ρ)) (hb2 hd) h1 (by rw [← Yje (ρ:=ρ) h2];exact Vdb ρ e1) fun b w1 N=>Ze fun a' ha'=>?_) ha;exact ⟨upd ρ id ⟨b,0,none⟩,tA _,hi.new hf hid N hq,Znd (tE _) (by show (True,Value.pointer _)=_;rw [tU]) ha'⟩
 cases h;cases h;split at h;rename_i e1 h1
 cases hq:(cA e1).all (us0 fun j=>Aba j s.nx && !Aaa j id) with
 | false=>rw [hq] at h;cases h
 | true =>
  rw [hq,Zfh] at h;injection h with h;injection h with h3 h4;subst h3 h4
  cases d with
  | none=>cases hd
  | some t =>
   refine Qea (Zqa (l:=(cA e1).map (v0 ρ)) (hb2 hd) (oE h1) (Vdb ρ e1) fun b w1 N=>Ze fun a' ha'=>?_) ha;exact ⟨upd ρ id ⟨b,0,none⟩,tA _,hi.new hf hid N hq,Znd (tE _) (by show (True,Value.pointer _)=_;rw [tU]) ha'⟩
 cases h;split at h;rename_i k o a1 z h1 h2 h3;split at h;rename_i e l h4;split at h;rename_i hc;injection h with h;injection h with h5 h6;subst h5 h6
 cases d with
 | some t=>cases hd
 | none =>
  have hB:=(hi.ok k _ h4).2;refine Qea (Xb (b:=(ρ k).b) (o:=o) (e:=e) (l:=l.map (v0 ρ)) (vs:=(cA a1).map (v0 ρ)) J h3 (oC h1) (oE h2) (Vdb ρ a1) (by rw [Aia];exact hc.1) hB (by rw [Aia,Aia];exact Nat.ble_eq_true_of_le hc.2.1) (Wpe ρ _) fun w1 hg _ hB1=>Ze fun a' ha'=>?_) ha;refine ⟨ρ,fun _ _=>rfl,hi.set h4 hg ?_ hc.2.2,ha'⟩;rw [Aia] at hB1;rw [Baa,Baa,List.map_take,List.map_drop];exact hB1
 cases h;cases h;cases h;split at h;rename_i e z by_ vs h1 h2;split at h;rename_i zv l h3 h4
 cases hq:(Asa (_*z) 16777216 && !Aaa (_*z) 0&&Aaa vs.length _)&&(l.all (us0 fun j=>Aba j s.nx && !Aaa j id)&&(Aaa l.length (_*z)&&Asa _ 1000000)) with
 | false=>rw [hq] at h;cases h
 | true =>
  rw [hq,Zfh] at h;injection h with h;injection h with h5 h6;subst h5 h6;obtain ⟨hm,hl⟩:=Aka.1 hq;obtain ⟨hl,hlen⟩:=Aka.1 hl;obtain ⟨hlen,hm2⟩:=Aka.1 hlen
  cases d with
  | none=>cases hd
  | some t =>
   refine Qea (Ya (l.map (v0 ρ)) (hb2 hd) h1 h3 (by simpa using Qhc h2) (by rw [Aia];exact hm) (Zod ρ _ _ _ _ h4) fun b w1 N=>Ze fun a' ha'=>?_) ha;have hO:w1.ownsRow w0.heap.size e z (.slice (some ⟨b,0,none⟩) _ _) _ (l.map (v0 ρ)):=Yvb N.blk (by rw [N.at_];exact hi.g.size) (by rw [Aia];exact Aoa hlen) (Nat.le_of_ble_eq_true hm2);exact ⟨upd ρ id ⟨b,_,w1.heap[b]?⟩,tA _,hi.app hf hid (fun _ _ h=>h) (N.g.only none) (fun k h=>by cases h) (fun k B hk h=>by cases h) hO (.inr N.at_) hl,Znd (tE _) (by show (True,Ha _ _ _)=_;rw [tU]) ha'⟩
 cases h;cases h;split at h;rename_i k1 k2 k3 y h1 h2 h3;injection h with h;injection h with h5 h6;subst h5 h6
 cases d with
 | none=>cases hd
 | some t =>
  exact .inl ⟨_,w,Qmf h1 h2 (oC h3) _ _ _ _ a ha trivial w (G.refl w),(fun h=>by cases h),ρ,fun _ _=>rfl,hi,Wed hd ha⟩
 cases h;split at h;rename_i g1 vs h1 h2
 cases hq:goFn P g1 with
 | false=>rw [hq] at h;cases h
 | true =>
  rw [hq,Zfh] at h
  obtain ⟨h,hnu⟩:cf g1 vs s=some (v,s')∧v≠.u:=by
   split at h;cases h;rename_i hn;exact ⟨h,fun e=>by subst e;exact hn _ h⟩
  have hC:=hcf _ _ _ _ _ h ρ w hi (Wve hw (fun x v hv=>oA_us hw hv) h2)
  cases d with
  | none=>cases v <;> first|exact absurd rfl hnu|cases hd
  | some t =>
   refine Qea (Xe (hb2 (by cases v <;> first|exact hd|cases hd)) ?_ hC fun r w' hr=>⟨(fun h=>by cases h),Ze fun a' ha'=>?_⟩) ha
   exact Vyf hq (oC h1) (Wue h2);obtain ⟨ρ',hA,hI,rfl⟩:=hr;have hA':Agr1 s.nx id ρ ρ':=fun k hk=>hA k (Aka.1 hk).1;exact ⟨ρ',hA',hI,Znd (hw.to hf hA') (by cases v <;> first|rfl|cases hd) ha'⟩
 cases h;split at h;rename_i e z by_ X k2 q h1 h2 h3;split at h;rename_i zv B2 m l mm h4 h5 h6;split at h;rename_i hc;injection h with h;injection h with h7 h8;subst h7 h8;obtain ⟨⟨rfl,hzs,hz0,hq0⟩,⟨hl2,h63,hby⟩,hus⟩:=hc
 cases d with
 | none=>cases hd
 | some t =>
  have hO2:=(hi.ok k2 B2 h5).row
  have hown:w.ownsRow w0.heap.size e z (v0 ρ X) m (l.map (v0 ρ))∧(∀ k B,lk mm k=some B→lk s.m k=some B)∧(∀ k,(v0 ρ X).ownBlock=some k→w0.heap.size≤k)∧∀ k B,lk mm k=some B→some (ρ k).b≠(v0 ρ X).ownBlock:=by
   unfold rowA at h6;split at h6;injection h6 with h6;injection h6 with h7 h6;injection h6 with h8 h6;subst h7 h8 h6;exact ⟨Jk _ _ _ _,fun _ _ h=>h,(fun k hk=>by cases hk),fun k B _ hk=>by cases hk⟩;rename_i k j;split at h6;rename_i e' z' j' l' h7;split at h6;rename_i he;obtain ⟨rfl,rfl,rfl⟩:=he;injection h6 with h6;injection h6 with h8 h6;injection h6 with h9 h6;subst h8 h9 h6;have hk:=hi.ok k _ h7;refine ⟨hk.2.1,fun i B hB=>?_,fun i hi'=>?_,fun i B hB hi'=>?_⟩;rw [Yie] at hB
   cases hb:Aaa k i with
   | true=>rw [hb] at hB;cases hB
   | false=>rw [hb] at hB;exact hB
   injection hi' with hi';subst hi';exact hk.1;rw [Yie] at hB
   cases hb:Aaa k i with
   | true=>rw [hb] at hB;cases hB
   | false =>
    rw [hb] at hB;injection hi' with hi';exact hi.ne i k B _ hB h7 (fun e=>by subst e;rw [Ala] at hb;cases hb) hi'
   cases h6;cases h6;cases h6
  obtain ⟨ho1,ho2,ho3,ho4⟩:=hown;refine Qea (Ur (news:=B2.l.map (v0 ρ)) (base:=w0.heap.size) (by rw [show Aba t n=true from hd];rfl) h1 h4 hzs hz0 (oC h2) ho1 (oC h3) (by rw [Aia];exact hl2) hO2 (Wpe ρ _) h63 hby hi.g.size fun a1 c1 w1 hO hg hor=>Ze fun a' ha'=>?_) ha;rw [← Baa] at hO
  obtain ⟨b,rfl⟩:∃ b,a1=some ⟨b,0,none⟩:=by
   rcases hO.2 with ⟨q1,q2⟩|⟨g,cap,cur,q1,_⟩;omega;injection q1 with q1;exact ⟨g,q1⟩
  refine ⟨upd ρ id ⟨b,c1,w1.heap[b]?⟩,tA _,hi.app hf hid ho2 hg ho3 ho4 hO ?_ hus,Znd (tE _) (by show (True,Ha _ _ _)=_;rw [tU]) ha'⟩;rcases hor with hor|hor;exact .inl hor.symm;injection hor with hor;exact .inr hor
 cases h;cases h;cases h;cases h
end
end Go.Rk
