/- Merged texts of one road: Pkf, Pkh, Pkj, Pkk, ScanS, ScanL, ScanM, ScanO, Pkl, Cqi, Cqj, Cqk, Cql. Conditions: each text's own. -/
import Derived.Test.YtapkdoacegpgaaaGreatDoorA02
import Derived.Test.YtapkdoacegpgaaaGreatDoorA07
import Derived.Test.YtapkdoacegpgaaaGreatDoorA05
import Derived.KernelRfl
set_option linter.unusedSimpArgs false
set_option linter.unusedVariables false
namespace Go.Proofs
end Go.Proofs
namespace Go.Rk
open Go.Proofs
open Go Go.RowKit
set_option maxHeartbeats 2000000
section
variable {l:List Tok} {sz:Int} {m:Nat} {x:Pz}
theorem Xqh(X:PzD l x)(K:PzOk l sz m x):PkN l sz (m+1) 0 Wka [] (selQ l sz x):=by
  intro n0 b tc tp S w h hm
  have hi := h.hi
  have hl := h.hl
  have hlt := h.lt
  have q2 := (Wx (l := l) (s := [115, 101, 108, 101, 99, 116]) (by decide) S).tle (Uy (s := [123]) (by decide) _)
  have n2 := q2.num hi
  have g := GT.refl mutP n0 w
  refine WK 56 [0] Jxa ?_
  refine AM fun b2 _ ga _ g E => ?_
  have h := Ui h
  refine Ze (kq (Zi (Zk (Zp O (CL (Vw h) ?_)))))
  rintro _ _ ⟨rfl, ga⟩
  refine RC fun g E => ?_
  have h := Uk h
  refine Jv Zt Xp (pqc O (pqc O pq0)) O O (AN fun b3 _ ga _ g E => ?_)
  have h := Ui h
  refine AS fun _ ga Ca g E => ?_
  have h := Uc h
  refine AU ?_
  refine CL (Wj [115, 101, 108, 101, 99, 116] (by decide) h) ?_
  rintro _ _ ⟨rfl, h, ga⟩
  refine RC fun g E => ?_
  refine AU ?_
  refine CL (Wj [123] (by decide) h) ?_
  rintro _ _ ⟨rfl, h, ga⟩
  refine RC fun g E => ?_
  refine AU ?_
  have hnd1 := E.1
  refine Xo (fun (y : Nat × List Nd × PSt) u1 => match y with | ⟨f, acc, T⟩ => (PR l sz n0 b tp tc T u1 ∧ selL l sz x f acc T = selL l sz x (l.length + 1) [] (takeQ l [123] (takeQ l [115, 101, 108, 101, 99, 116] S)) ∧ remQ l T ≤ f ∧ acc.length + f ≤ l.length + 1 ∧ remQ l T ≤ remQ l (takeQ l [123] (takeQ l [115, 101, 108, 101, 99, 116] S)) ∧ ∃ s, Blk u1 b3 Ys (ndCells (mkN 22 [] 0 (offQ l sz S) []) s) ∧ OwnN [b2, b3] w.heap.size u1 acc s) ∧ GT mutP n0 w u1) _ [(0, True, _), (2, True, _), (3, True, _)] (fun (y : Nat × List Nd × PSt) => match y with | ⟨f, acc, T⟩ => []) (fun (y : Nat × List Nd × PSt) => match y with | ⟨f, acc, T⟩ => f) ((l.length + 1, [], takeQ l [123] (takeQ l [115, 101, 108, 101, 99, 116] S))) ⟨⟨h, rfl, Ufa, by simp, Nat.le_refl _, _, E.g0, Wqa _ _ _⟩, g⟩ (Zs (blkE E.g1) (Zz _)) (Za O (Za O (Za O (Zo _)))) ?_
  clear E
  rintro ⟨f, acc, T⟩ u1 ⟨hI1, gl1⟩ ⟨B2, _⟩
  replace B2 : Blk _ _ _ _ := B2
  have g := gl1
  obtain ⟨h, he, hf, hac, hrm, s, B3, hO⟩ := hI1
  obtain ⟨sa, sc, rfl⟩ := hO.slice
  have hmu : u1.heap.size ≤ u1.heap.size := Nat.le_refl _
  have hOlt := hO.lt
  have hTi := h.hi
  have E := Jo (L := [(b3, _, _), (b2, _, _)]) hnd1 ⟨B3, B2, trivial⟩ rfl
  refine AU ?_
  refine CG (fun hc => Una [125] h) (fun w21 g21 => ?_)
  have g := gtg g g21
  replace E := E.grow g21
  have hmu := Nat.le_trans hmu ((g21)).size
  have h := h.grow (g21)
  have hO := hO.grow (g21)
  refine IF (fun h1 => ?_) fun h1 => ?_
  · replace h1 : (!T.bad && !isQ l T [125]) = true := h1
    have hnb : T.bad = false := by simpa using (Bool.and_eq_true_iff.1 h1).1
    have hp := Uea (l := l) hnb
    obtain ⟨f', rfl⟩ : ∃ f', f = f' + 1 := ⟨f - 1, by omega⟩
    rw [selL, h1, cond_true] at he
    have n3 := (Xie X T).num hTi
    have hTc := (Xie X T hTi).1
    have n4 := (Uy (l := l) (s := [58]) (by decide) (casQ l x T).2).num hTc
    have n5 := (X.sts true (takeQ l [58] (casQ l x T).2)).num (Uy (by decide) _ hTc).1
    refine Yb (kq (Yo (Zi (Zk (Zp O (CL (Vw h) ?_))))))
    rintro _ _ ⟨rfl, ga⟩
    refine RC fun g E => ?_
    have hmu := Nat.le_trans hmu ((ga)).size
    have h := Uk h
    have hO := Uk hO
    refine Jv Zt Xp (pqc O (pqc O pq0)) O O (AN fun b4 _ ga _ g E => ?_)
    have y4 := Nat.le_trans hmu (Nat.le_of_eq ga.at_.symm)
    have hO := Uj hO
    have hmu := Nat.le_trans hmu ((ga.g)).size
    have h := Ui h
    refine AS fun _ ga Ca g E => ?_
    have hmu := Nat.le_trans hmu ga.size
    have h := Uc h
    have hO := Ua hO
    refine AN fun b5 _ ga _ g E => ?_
    have y5 := Nat.le_trans hmu (Nat.le_of_eq ga.at_.symm)
    have hO := Uj hO
    have hmu := Nat.le_trans hmu ((ga.g)).size
    have h := Ui h
    refine AS fun _ ga Ca g E => ?_
    have hmu := Nat.le_trans hmu ga.size
    have h := Uc h
    have hO := Ua hO
    refine AU ?_
    refine CL (Zxa [100, 101, 102, 97, 117, 108, 116] (by decide) h) ?_
    rintro _ _ ⟨rfl, h, ga⟩
    refine RC fun g E => ?_
    have hmu := Nat.le_trans hmu (ga).size
    have hO := hO.gt ga rfl
    refine IF (fun h2 => ?_) fun h2 => ?_
    · have e2 : isQ l T [100, 101, 102, 97, 117, 108, 116] = false := by simpa using h2
      rw [e2] at h; simp only [cond_false] at h
      have ec : casQ l x T = x.sim true (takeQ l [99, 97, 115, 101] T) := by unfold casQ; rw [e2]; rfl
      have n6 := (Wx (l := l) (s := [99, 97, 115, 101]) (by decide) T).num hTi
      refine AU ?_
      refine CL (Wj [99, 97, 115, 101] (by decide) h) ?_
      rintro _ _ ⟨rfl, h, ga⟩
      refine RC fun g E => ?_
      have hmu := Nat.le_trans hmu (ga).size
      have hO := hO.gt ga rfl
      refine AU ?_
      refine CL (PkN.to (K.sim true) [b2, b3, b4, b5] h (by omega) (E.ltm (by simp [selB])) hmu) ?_
      rintro _ _ ⟨⟨p34, c34, rfl, q34, k34⟩, h, ga⟩
      refine RC fun g E => ?_
      have hmu := Nat.le_trans hmu (ga).size
      have hO := hO.gt ga rfl
      have ec2 : (x.sim true (takeQ l [99, 97, 115, 101] T)).2 = (casQ l x T).2 := by rw [ec]
      rw [ec2] at h
      refine AS fun _ ga Ca g E => ?_
      have hmu := Nat.le_trans hmu ga.size
      have h := Uc h
      have k34 := Ua k34
      have hO := Ua hO
      refine Ze (kq (Zi (Zk (Zp O (CL (Vw h) ?_)))))
      rintro _ _ ⟨rfl, ga⟩
      refine RC fun g E => ?_
      have hmu := Nat.le_trans hmu ((ga)).size
      have h := Uk h
      have k34 := Uk k34
      have hO := Uk hO
      refine Jv Zt Xp (pqc O (pqc O pq0)) O O (AN fun b6 _ ga l6 g E => ?_)
      have y6 := Nat.le_trans hmu (Nat.le_of_eq ga.at_.symm)
      have k34 := Uj k34
      have hO := Uj hO
      have hmu := Nat.le_trans hmu ((ga.g)).size
      have h := Ui h
      refine AS fun _ ga Ca g E => ?_
      have hmu := Nat.le_trans hmu ga.size
      have h := Uc h
      have k34 := Ua k34
      have hO := Ua hO
      refine AU ?_
      refine CL (Wj [58] (by decide) h) ?_
      rintro _ _ ⟨rfl, h, ga⟩
      refine RC fun g E => ?_
      have hmu := Nat.le_trans hmu (ga).size
      have k34 := k34.gtp ga
      have hO := hO.gt ga rfl
      refine AU ?_
      refine CL (PkL.to (K.sts true) [b2, b3, b4, b5, b6] h (.inr (by omega)) (E.ltm (by simp [selB])) hmu) ?_
      rintro _ _ ⟨⟨p41, c41, rfl, q41, k41⟩, h, ga⟩
      refine RC fun g E => ?_
      have hmu := Nat.le_trans hmu (ga).size
      have k34 := k34.gtp ga
      have hO := hO.gt ga rfl
      refine AS fun _ ga Ca g E => ?_
      have hmu := Nat.le_trans hmu ga.size
      have h := Uc h
      have k34 := Ua k34
      have k41 := Ua k41
      have hO := Ua hO
      refine CN fun b45 _ ga l45 g E => ?_
      have y45 := Nat.le_trans hmu (Nat.le_of_eq ga.at_.symm)
      have k34 := Uj k34
      have k41 := Uj k41
      have hO := Uj hO
      have hmu := Nat.le_trans hmu ((ga.g)).size
      have h := Ui h
      have x45_6 := E.ne 0 1 rfl rfl rfl
      have x45_5 := E.ne 0 2 rfl rfl rfl
      have x45_4 := E.ne 0 3 rfl rfl rfl
      have x45_3 := E.ne 0 4 rfl rfl rfl
      have x45_2 := E.ne 0 5 rfl rfl rfl
      refine AS fun _ ga Ca g E => ?_
      have hmu := Nat.le_trans hmu ga.size
      have h := Uc h
      have k34 := Ua k34
      have k41 := Ua k41
      have hO := Ua hO
      refine CN fun b50 w50 ga l50 g E => ?_
      have y50 := Nat.le_trans hmu (Nat.le_of_eq ga.at_.symm)
      have k34 := Uj k34
      have k41 := Uj k41
      have hO := Uj hO
      have hmu := Nat.le_trans hmu ((ga.g)).size
      have h := Ui h
      have x50_45 := E.ne 0 1 rfl rfl rfl
      have x50_6 := E.ne 0 2 rfl rfl rfl
      have x50_5 := E.ne 0 3 rfl rfl rfl
      have x50_4 := E.ne 0 4 rfl rfl rfl
      have x50_3 := E.ne 0 5 rfl rfl rfl
      have x50_2 := E.ne 0 6 rfl rfl rfl
      have kB : Kd w50 (fun k => (u1.heap.size ≤ k ∧ k ∉ [b2, b3, b50]) ∧ NdR w50 k) (x.sts true (takeQ l [58] (casQ l x T).2)).1 _ := k41.mono fun k hk _ => ⟨⟨Nat.le_trans q41 hk.1.1, by have := hk.1.2; simp at this ⊢; omega⟩, hk.2⟩
      have kc : Kd w50 (fun k => (u1.heap.size ≤ k ∧ k ∉ [b2, b3, b50]) ∧ NdR w50 k) [(casQ l x T).1, mkN 10 [] 0 (offQ l sz (casQ l x T).2) (x.sts true (takeQ l [58] (casQ l x T).2)).1] (.slice (some ⟨b45, 0, none⟩) 2 2) := by
        have hd : (fun k => (u1.heap.size ≤ k ∧ k ∉ [b2, b3, b50]) ∧ NdR w50 k) b45 := ⟨⟨y45, by simp; omega⟩, Xa E.g1⟩
        first
        | (have kA : Kd w50 (fun k => (u1.heap.size ≤ k ∧ k ∉ [b2, b3, b50]) ∧ NdR w50 k) (x.sim true (takeQ l [99, 97, 115, 101] T)).1.kids _ := k34.mono fun k hk _ => ⟨⟨Nat.le_trans q34 hk.1.1, by have := hk.1.2; simp at this ⊢; omega⟩, hk.2⟩
           rw [show (casQ l x T).1 = (x.sim true (takeQ l [99, 97, 115, 101] T)).1 by rw [ec]]
           exact Xm (ks := [_, mkN 10 [] 0 _ _]) hd E.g1.row (Xj kA (Yc (t := mkN 10 [] 0 _ _) kB)) (Nat.le_refl _))
        | (rw [show (casQ l x T).1 = nonN by rw [ec]]
           exact Xm (ks := [nonN, mkN 10 [] 0 _ _]) hd E.g1.row (Xj (t := nonN) (Qta _ _) (Yc (t := mkN 10 [] 0 _ _) kB)) (Nat.le_refl _))
      have kr : KRow w50 (fun k => (Dx w.heap.size [b2, b3] k ∧ NdR w50 k) ∧ some k ≠ (Value.slice sa acc.length sc).ownBlock) [(mkN 23 [] 0 (offQ l sz T) [(casQ l x T).1, mkN 10 [] 0 (offQ l sz (casQ l x T).2) (x.sts true (takeQ l [58] (casQ l x T).2)).1])] (ndCells (mkN 23 [] 0 (offQ l sz T) [(casQ l x T).1, mkN 10 [] 0 (offQ l sz (casQ l x T).2) (x.sts true (takeQ l [58] (casQ l x T).2)).1]) (.slice (some ⟨b45, 0, none⟩) 2 2)) := Yc (t := (mkN 23 [] 0 (offQ l sz T) [(casQ l x T).1, mkN 10 [] 0 (offQ l sz (casQ l x T).2) (x.sts true (takeQ l [58] (casQ l x T).2)).1])) (kc.mono fun k hk _ => ⟨⟨⟨Nat.le_trans gl1.size hk.1.1, by have := hk.1.2; simp at this ⊢; omega⟩, hk.2⟩, by intro e; have := hOlt k e.symm; have := hk.1.1; omega⟩)
      have hO := hO.sub (Y := [b2, b3]) (by intro j hj; simp at hj ⊢; omega)
      have hOo := hO
      refine Xx O Zc Zt O (Zd O) hO (Zd O) O E.g0.row kr (by simp; omega) (by have := g.size; omega) ⟨by have := g.size; omega, by have q2 := E.g6.lt; have q3 := E.g5.lt; simp; omega⟩ ?_
      intro a51 c51 w51 hO hg51
      replace E := E.sel [false, false, false, false, false, true, true]
      replace E := E.keepX hg51 hOo.ne (by simp [selB])
      have g := Ww g hg51 (fun k hk => hOo.ge k hk)
      have h := h.keepO hg51 hOo
      refine AS fun _ ga Ca g E => ?_
      have h := Uc h
      have hO := Ua hO
      refine SK [0, 2, 3] ?_
      refine Ze (fun a ha => ?_)
      exact ⟨(f', _, _), ha, ⟨⟨h, he, by omega, by simp; omega, by omega, _, E.g0, hO⟩, g⟩, (Zs (blkE E.g1) (Zz _)), by show f' < f' + 1; omega⟩
    have e2 : isQ l T [100, 101, 102, 97, 117, 108, 116] = true := by simpa using h2
    rw [e2] at h; simp only [cond_true] at h
    have ec : casQ l x T = (nonN, adv T) := by unfold casQ; rw [e2]; rfl
    have ec2 : adv T = (casQ l x T).2 := by rw [ec]
    rw [ec2] at h
    refine Yb (kq (Zi (Zk (Zp O (CL (Vw h) ?_)))))
    rintro _ _ ⟨rfl, ga⟩
    refine RC fun g E => ?_
    have hmu := Nat.le_trans hmu ((ga)).size
    have h := Uk h
    have hO := Uk hO
    refine Jv Zt Xp (pqc O (pqc O pq0)) O O (AN fun b6 _ ga _ g E => ?_)
    have y6 := Nat.le_trans hmu (Nat.le_of_eq ga.at_.symm)
    have hO := Uj hO
    have hmu := Nat.le_trans hmu ((ga.g)).size
    have h := Ui h
    refine AS fun _ ga Ca g E => ?_
    have hmu := Nat.le_trans hmu ga.size
    have h := Uc h
    have hO := Ua hO
    refine AU ?_
    refine CL (Wj [58] (by decide) h) ?_
    rintro _ _ ⟨rfl, h, ga⟩
    refine RC fun g E => ?_
    have hmu := Nat.le_trans hmu (ga).size
    have hO := hO.gt ga rfl
    refine AU ?_
    refine CL (PkL.to (K.sts true) [b2, b3, b4, b5, b6] h (.inr (by omega)) (E.ltm (by simp [selB])) hmu) ?_
    rintro _ _ ⟨⟨p41, c41, rfl, q41, k41⟩, h, ga⟩
    refine RC fun g E => ?_
    have hmu := Nat.le_trans hmu (ga).size
    have hO := hO.gt ga rfl
    refine AS fun _ ga Ca g E => ?_
    have hmu := Nat.le_trans hmu ga.size
    have h := Uc h
    have k41 := Ua k41
    have hO := Ua hO
    refine CN fun b45 _ ga _ g E => ?_
    have y45 := Nat.le_trans hmu (Nat.le_of_eq ga.at_.symm)
    have k41 := Uj k41
    have hO := Uj hO
    have hmu := Nat.le_trans hmu ((ga.g)).size
    have h := Ui h
    have x45_6 := E.ne 0 1 rfl rfl rfl
    have x45_5 := E.ne 0 2 rfl rfl rfl
    have x45_4 := E.ne 0 3 rfl rfl rfl
    have x45_3 := E.ne 0 4 rfl rfl rfl
    have x45_2 := E.ne 0 5 rfl rfl rfl
    refine AS fun _ ga Ca g E => ?_
    have hmu := Nat.le_trans hmu ga.size
    have h := Uc h
    have k41 := Ua k41
    have hO := Ua hO
    refine CN fun b50 w50 ga _ g E => ?_
    have y50 := Nat.le_trans hmu (Nat.le_of_eq ga.at_.symm)
    have k41 := Uj k41
    have hO := Uj hO
    have hmu := Nat.le_trans hmu ((ga.g)).size
    have h := Ui h
    have x50_45 := E.ne 0 1 rfl rfl rfl
    have x50_6 := E.ne 0 2 rfl rfl rfl
    have x50_5 := E.ne 0 3 rfl rfl rfl
    have x50_4 := E.ne 0 4 rfl rfl rfl
    have x50_3 := E.ne 0 5 rfl rfl rfl
    have x50_2 := E.ne 0 6 rfl rfl rfl
    have kB : Kd w50 (fun k => (u1.heap.size ≤ k ∧ k ∉ [b2, b3, b50]) ∧ NdR w50 k) (x.sts true (takeQ l [58] (casQ l x T).2)).1 _ := k41.mono fun k hk _ => ⟨⟨Nat.le_trans q41 hk.1.1, by have := hk.1.2; simp at this ⊢; omega⟩, hk.2⟩
    have kc : Kd w50 (fun k => (u1.heap.size ≤ k ∧ k ∉ [b2, b3, b50]) ∧ NdR w50 k) [(casQ l x T).1, mkN 10 [] 0 (offQ l sz (casQ l x T).2) (x.sts true (takeQ l [58] (casQ l x T).2)).1] (.slice (some ⟨b45, 0, none⟩) 2 2) := by
      have hd : (fun k => (u1.heap.size ≤ k ∧ k ∉ [b2, b3, b50]) ∧ NdR w50 k) b45 := ⟨⟨y45, by simp; omega⟩, Xa E.g1⟩
      first
      | (have kA : Kd w50 (fun k => (u1.heap.size ≤ k ∧ k ∉ [b2, b3, b50]) ∧ NdR w50 k) (x.sim true (takeQ l [99, 97, 115, 101] T)).1.kids _ := k34.mono fun k hk _ => ⟨⟨Nat.le_trans q34 hk.1.1, by have := hk.1.2; simp at this ⊢; omega⟩, hk.2⟩
         rw [show (casQ l x T).1 = (x.sim true (takeQ l [99, 97, 115, 101] T)).1 by rw [ec]]
         exact Xm (ks := [_, mkN 10 [] 0 _ _]) hd E.g1.row (Xj kA (Yc (t := mkN 10 [] 0 _ _) kB)) (Nat.le_refl _))
      | (rw [show (casQ l x T).1 = nonN by rw [ec]]
         exact Xm (ks := [nonN, mkN 10 [] 0 _ _]) hd E.g1.row (Xj (t := nonN) (Qta _ _) (Yc (t := mkN 10 [] 0 _ _) kB)) (Nat.le_refl _))
    have kr : KRow w50 (fun k => (Dx w.heap.size [b2, b3] k ∧ NdR w50 k) ∧ some k ≠ (Value.slice sa acc.length sc).ownBlock) [(mkN 23 [] 0 (offQ l sz T) [(casQ l x T).1, mkN 10 [] 0 (offQ l sz (casQ l x T).2) (x.sts true (takeQ l [58] (casQ l x T).2)).1])] (ndCells (mkN 23 [] 0 (offQ l sz T) [(casQ l x T).1, mkN 10 [] 0 (offQ l sz (casQ l x T).2) (x.sts true (takeQ l [58] (casQ l x T).2)).1]) (.slice (some ⟨b45, 0, none⟩) 2 2)) := Yc (t := (mkN 23 [] 0 (offQ l sz T) [(casQ l x T).1, mkN 10 [] 0 (offQ l sz (casQ l x T).2) (x.sts true (takeQ l [58] (casQ l x T).2)).1])) (kc.mono fun k hk _ => ⟨⟨⟨Nat.le_trans gl1.size hk.1.1, by have := hk.1.2; simp at this ⊢; omega⟩, hk.2⟩, by intro e; have := hOlt k e.symm; have := hk.1.1; omega⟩)
    have hO := hO.sub (Y := [b2, b3]) (by intro j hj; simp at hj ⊢; omega)
    have hOo := hO
    refine Xx O Zc Zt O (Zd O) hO (Zd O) O E.g0.row kr (by simp; omega) (by have := g.size; omega) ⟨by have := g.size; omega, by have q2 := E.g6.lt; have q3 := E.g5.lt; simp; omega⟩ ?_
    intro a51 c51 w51 hO hg51
    replace E := E.sel [false, false, false, false, false, true, true]
    replace E := E.keepX hg51 hOo.ne (by simp [selB])
    have g := Ww g hg51 (fun k hk => hOo.ge k hk)
    have h := h.keepO hg51 hOo
    refine AS fun _ ga Ca g E => ?_
    have h := Uc h
    have hO := Ua hO
    refine SK [0, 2, 3] ?_
    refine Ze (fun a ha => ?_)
    exact ⟨(f', _, _), ha, ⟨⟨h, he, by omega, by simp; omega, by omega, _, E.g0, hO⟩, g⟩, (Zs (blkE E.g1) (Zz _)), by show f' < f' + 1; omega⟩
  replace h1 : (!T.bad && !isQ l T [125]) = false := h1
  have he : (acc, T) = selL l sz x (l.length + 1) [] (takeQ l [123] (takeQ l [115, 101, 108, 101, 99, 116] S)) := by
    rw [← he]
    cases f with
    | zero => rfl
    | succ f' => rw [selL, h1]; rfl
  refine AU ?_
  refine CL (Wj [125] (by decide) h) ?_
  rintro _ _ ⟨rfl, h, ga⟩
  refine RC fun g E => ?_
  have hmu := Nat.le_trans hmu (ga).size
  have hO := hO.gt ga rfl
  refine AS fun _ ga Ca g E => ?_
  have hmu := Nat.le_trans hmu ga.size
  have h := Uc h
  have hO := Ua hO
  refine RTN ?_
  have e : selQ l sz x S = (mkN 22 [] 0 (offQ l sz S) acc, takeQ l [125] T) := by unfold selQ; dsimp only; rw [← he]
  rw [e]; exact ⟨Zr (t := mkN 22 [] 0 (offQ l sz S) acc) rfl hO.kd, h, g⟩
theorem Jfg(X:PzD l x)(K:PzOk l sz m x):PkN l sz (m+1) 5 Vaa [] (stQ l sz x):=by
 intro n0 b tc tp S w h hm;have hi:=h.hi;have hl:=h.hl;have hlt:=h.lt;have g:=GT.refl mutP n0 w;refine WK 156 [0] Qvb ?_;refine AM fun b2 _ ga _ g E=>?_;have h:=Ui h;refine AU ?_;refine CL (Vw h) ?_;rintro _ _ ⟨rfl,ga⟩;refine RC fun g E=>?_;have h:=Uk h;refine AN fun b3 _ ga _ g E=>?_;have h:=Ui h;refine AS fun _ ga Ca g E=>?_;have h:=Uc h;refine AU ?_;refine CL (Qea 0 (by omega) h) ?_;rintro _ _ ⟨rfl,ga⟩;refine RC fun g E=>?_;have h:=Uk h;refine IF (fun h1=>?_) fun h1=>?_;have e1:isQ l S [118,97,114]=true:=h1;have hadv:=(Vt e1 (by decide)).2;have hp:=Qd e1 (by decide);have na:=(Xv e1 (by decide)).num hi;have n1:=((Xv e1 (by decide)).trans (Zba _)).num hi;have n2:=((Xv e1 (by decide)).trans ((Zba _).trans (Vsb (sz:=sz) _))).num hi;refine AS fun _ ga Ca g E=>?_;have h:=Uc h;refine AU ?_;refine Yq O Va (Zd O) (Zd O) O h.B O O ?_;intro wS3 hgS3 _ BS;replace E:=E.keepT hgS3 h.B rfl;have g:=Wu g hgS3 h.B rfl h.hb;have h:=h.adv hgS3 BS (by first|assumption|omega);refine AU ?_;refine CL (Qfa h) ?_;rintro _ _ ⟨rfl,h,ga⟩;refine RC fun g E=>?_;refine AS fun _ ga Ca g E=>?_;have h:=Uc h;refine AU ?_;refine CL (PkN.to (Xje) [b2,b3] h (by have:=Ufa (S:=S) (l:=l);omega) (E.ltm (by simp [selB])) g.size) ?_;rintro _ _ ⟨⟨p25,c25,rfl,q25,k25⟩,h,ga⟩;refine RC fun g E=>?_;refine CN fun b27 _ ga l27 g E=>?_;have k25:=Uj k25;have h:=Ui h;refine AS fun _ ga Ca g E=>?_;have h:=Uc h;have k25:=Ua k25;refine AU ?_;refine CL (Zxa [61] (by decide) h) ?_;rintro _ _ ⟨rfl,h,ga⟩;refine RC fun g E=>?_;have k25:=k25.gtp ga;refine IF (fun h2=>?_) fun h2=>?_;have e2:isQ l (typQ l sz (nameQ l (adv S)).2).2 [61]=true:=h2;rw [e2] at h;simp only [cond_true] at h
 have n3:=((Xv e1 (by decide)).trans ((Zba _).trans ((Vsb (sz:=sz) _).trans (Xv e2 (by decide))))).num hi;refine Xu (gtP n0) [3,0,3,1,3,2] [0,1,0,4,15,31] mix (by kernel_rfl) [0,1,2,3,4,5] O ?_;have g:=gtd g;replace E:=E.dr;have h:=h.grow (G.drew _);have k25:=k25.grow (G.drew _);refine Zx 0 O O (fun _=>Zn Zg (Zd O)) (Wh 1 O O (fun w1 hx=>Zw Zf (Zd O) (fun _=>(E.g1.gt hx O).at_ O)) (Zx 2 O O (fun _=>Zl (Zd O)) (Zu 3 O O ?_)));refine Zv (L':=[4,5]) [3,0,3,2,3,2] O O O ?_;refine CL (PkN.to (K.ex 1 (by omega)) [b2,b3,b27] h (by omega) (E.ltm (by simp [selB])) g.size) ?_;rintro v34 w34 ⟨⟨p34,c34,rfl,q34,k34⟩,h,g34⟩;refine ⟨nw1,?_⟩;have g:=g.trans g34;replace E:=E.gt g34 rfl;have k25:=k25.gtp g34;refine Yj (g34) ?_;refine Zx 4 O O (fun _=>Qna Zc (Zd O) Xg (fun _=>by omega)) (Zu 5 O O ?_);refine Ye (L':=[]) [3,0,3,2,3,2] O O O O ?_;refine Xi O Qr (Zd O) (Zd O) O O E.g0 O O ?_;intro wS6 hgS6 _ BS;have C27:=E.g0;replace E:=E.s0 hgS6 BS;have g:=Wm g hgS6 (by omega);have h:=h.keep hgS6 C27 rfl rfl;have k25:=k25.keep hgS6 (by simp);have k34:=k34.keep hgS6 (by simp);refine Yy ?_;refine TK [0,2,3] ?_;refine AS fun _ ga Ca g E=>?_;have h:=Uc h;have k25:=Ua k25;have k34:=Ua k34;refine RTN ?_;have e:stQ l sz x S=(mkN 6 (nameQ l (adv S)).1 0 (offQ l sz S) [(typQ l sz (nameQ l (adv S)).2).1,(x.ex 1 (adv (typQ l sz (nameQ l (adv S)).2).2)).1],(x.ex 1 (adv (typQ l sz (nameQ l (adv S)).2).2)).2):=by unfold stQ;rw [e1];show varQ l sz x S=_;unfold varQ;dsimp only;rw [e2];rfl
 rw [e];exact ⟨Zr (t:=mkN 6 (nameQ l (adv S)).1 0 (offQ l sz S) [_,_]) rfl (Xm (ks:=[_,_]) ⟨l27,Xa E.g0⟩ E.g0.row (Xj (k25.kdN q25) (Yc (k34.kdN q34))) (Nat.le_refl _)),h,g⟩;have e2:isQ l (typQ l sz (nameQ l (adv S)).2).2 [61]=false:=h2;rw [e2] at h;simp only [cond_false] at h;refine AS fun _ ga Ca g E=>?_;have h:=Uc h;have k25:=Ua k25;refine RTN ?_;have e:stQ l sz x S=(mkN 6 (nameQ l (adv S)).1 0 (offQ l sz S) [(typQ l sz (nameQ l (adv S)).2).1,nonN],(typQ l sz (nameQ l (adv S)).2).2):=by unfold stQ;rw [e1];show varQ l sz x S=_;unfold varQ;dsimp only;rw [e2];rfl
 rw [e];exact ⟨Zr (t:=mkN 6 (nameQ l (adv S)).1 0 (offQ l sz S) [_,nonN]) rfl (Xm (ks:=[_,nonN]) ⟨l27,Xa E.g0⟩ E.g0.row (Xj (k25.kdN q25) (Yc (Wv _ _))) (Nat.le_refl _)),h,g⟩;have e1:isQ l S [118,97,114]=false:=h1;refine AU ?_;refine' OR [0,2,3,10] (fun hb3=>?y3) (kq ?n3)
 case y3 =>
  refine AU ?_;refine SK [37,0,2,3,10] ?_;exact Ze knr
 case n3 =>
  refine IF (fun h4=>?_) fun h4=>?_;replace h4:(isQ l S [103,111] || isQ l S [100,101,102,101,114])=true:=h4
  have hadv:S.ix<l.length:=by
   rcases Bool.or_eq_true_iff.1 h4 with q|q;exact (Vt q (by decide)).2;exact (Vt q (by decide)).2
  have hp:1≤remQ l S:=by
   rcases Bool.or_eq_true_iff.1 h4 with q|q;exact Qd q (by decide);exact Qd q (by decide)
  have na:=(Yia hadv).num hi;refine AS fun _ ga Ca g E=>?_;have h:=Uc h;refine AU ?_;refine CL (Una [100,101,102,101,114] h) ?_;rintro _ _ ⟨rfl,ga⟩;refine RC fun g E=>?_;have h:=Uk h;refine IF (fun h5=>?_) fun h5=>?_;have e5:isQ l S [100,101,102,101,114]=true:=h5;refine AS fun _ ga Ca g E=>?_;have h:=Uc h;refine AU ?_;refine Yq O Va (Zd O) (Zd O) O h.B O O ?_;intro wS11 hgS11 _ BS;replace E:=E.keepT hgS11 h.B rfl;have g:=Wu g hgS11 h.B rfl h.hb;have h:=h.adv hgS11 BS (by first|assumption|omega);refine AU ?_;refine CL (PkN.to (K.pri) [b2,b3] h (by omega) (E.ltm (by simp [selB])) g.size) ?_;rintro _ _ ⟨⟨p52,c52,rfl,q52,k52⟩,h,ga⟩;refine RC fun g E=>?_;refine AN fun _ _ ga l4 g E=>?_;have k52:=Uj k52;have h:=Ui h;refine AS fun _ ga Ca g E=>?_;have h:=Uc h;have k52:=Ua k52;refine IF (fun h6=>?_) fun h6=>?_;have e6:(!decide ((x.pri (adv S)).1.kind=30))=true:=h6;refine AU ?_;refine CL (Uda h) ?_;rintro _ _ ⟨rfl,h,ga⟩;refine RC fun g E=>?_;have k52:=k52.gtp ga;refine CN fun _ _ ga l59 g E=>?_;have k52:=Uj k52;have h:=Ui h;refine AS fun _ ga Ca g E=>?_;have h:=Uc h;have k52:=Ua k52;refine AS fun _ ga Ca g E=>?_;have h:=Uc h;have k52:=Ua k52;refine RTN ?_;have e:stQ l sz x S=(mkN 15 [] 0 (offQ l sz S) [(x.pri (adv S)).1],failQ (x.pri (adv S)).2):=by unfold stQ;rw [e1,h4];dsimp only [cond_true,cond_false];rw [e5,e6];rfl
  rw [e];exact ⟨Zr (t:=mkN 15 [] 0 (offQ l sz S) [_]) rfl (Xm (ks:=[_]) ⟨l59,Xa E.g0⟩ E.g0.row (Yc (k52.kdN q52)) (Nat.le_refl _)),h,g⟩;have e6:(!decide ((x.pri (adv S)).1.kind=30))=false:=h6;refine CN fun _ _ ga l59 g E=>?_;have k52:=Uj k52;have h:=Ui h;refine AS fun _ ga Ca g E=>?_;have h:=Uc h;have k52:=Ua k52;refine AS fun _ ga Ca g E=>?_;have h:=Uc h;have k52:=Ua k52;refine RTN ?_;have e:stQ l sz x S=(mkN 15 [] 0 (offQ l sz S) [(x.pri (adv S)).1],(x.pri (adv S)).2):=by unfold stQ;rw [e1,h4];dsimp only [cond_true,cond_false];rw [e5,e6];rfl
  rw [e];exact ⟨Zr (t:=mkN 15 [] 0 (offQ l sz S) [_]) rfl (Xm (ks:=[_]) ⟨l59,Xa E.g0⟩ E.g0.row (Yc (k52.kdN q52)) (Nat.le_refl _)),h,g⟩;have e5:isQ l S [100,101,102,101,114]=false:=h5;refine AU ?_;refine Yq O Va (Zd O) (Zd O) O h.B O O ?_;intro wS17 hgS17 _ BS;replace E:=E.keepT hgS17 h.B rfl;have g:=Wu g hgS17 h.B rfl h.hb;have h:=h.adv hgS17 BS (by first|assumption|omega);refine AU ?_;refine CL (PkN.to (K.pri) [b2,b3] h (by omega) (E.ltm (by simp [selB])) g.size) ?_;rintro _ _ ⟨⟨p52,c52,rfl,q52,k52⟩,h,ga⟩;refine RC fun g E=>?_;refine AN fun _ _ ga _ g E=>?_;have k52:=Uj k52;have h:=Ui h;refine AS fun _ ga Ca g E=>?_;have h:=Uc h;have k52:=Ua k52;refine IF (fun h7=>?_) fun h7=>?_;have e6:(!decide ((x.pri (adv S)).1.kind=30))=true:=h7;refine AU ?_;refine CL (Uda h) ?_;rintro _ _ ⟨rfl,h,ga⟩;refine RC fun g E=>?_;have k52:=k52.gtp ga;refine CN fun _ _ ga l59 g E=>?_;have k52:=Uj k52;have h:=Ui h;refine AS fun _ ga Ca g E=>?_;have h:=Uc h;have k52:=Ua k52;refine AS fun _ ga Ca g E=>?_;have h:=Uc h;have k52:=Ua k52;refine RTN ?_;have e:stQ l sz x S=(mkN 14 [] 0 (offQ l sz S) [(x.pri (adv S)).1],failQ (x.pri (adv S)).2):=by unfold stQ;rw [e1,h4];dsimp only [cond_true,cond_false];rw [e5,e6];rfl
  rw [e];exact ⟨Zr (t:=mkN 14 [] 0 (offQ l sz S) [_]) rfl (Xm (ks:=[_]) ⟨l59,Xa E.g0⟩ E.g0.row (Yc (k52.kdN q52)) (Nat.le_refl _)),h,g⟩;have e6:(!decide ((x.pri (adv S)).1.kind=30))=false:=h7;refine CN fun _ _ ga l59 g E=>?_;have k52:=Uj k52;have h:=Ui h;refine AS fun _ ga Ca g E=>?_;have h:=Uc h;have k52:=Ua k52;refine AS fun _ ga Ca g E=>?_;have h:=Uc h;have k52:=Ua k52;refine RTN ?_;have e:stQ l sz x S=(mkN 14 [] 0 (offQ l sz S) [(x.pri (adv S)).1],(x.pri (adv S)).2):=by unfold stQ;rw [e1,h4];dsimp only [cond_true,cond_false];rw [e5,e6];rfl
  rw [e];exact ⟨Zr (t:=mkN 14 [] 0 (offQ l sz S) [_]) rfl (Xm (ks:=[_]) ⟨l59,Xa E.g0⟩ E.g0.row (Yc (k52.kdN q52)) (Nat.le_refl _)),h,g⟩;replace h4:(isQ l S [103,111] || isQ l S [100,101,102,101,114])=false:=h4;skip;refine AU ?_;refine' OR [0,2,3,10] (fun hb8=>?y8) (kq ?n8)
  case y8 =>
   refine AU ?_;refine SK [62,0,2,3,10] ?_;exact Ze knr
  case n8 =>
   refine IF (fun h9=>?_) fun h9=>?_;replace h9:(isQ l S [99,108,111,115,101] || isQ l S [112,114,105,110,116])=true:=h9
   have hadv:S.ix<l.length:=by
    rcases Bool.or_eq_true_iff.1 h9 with q|q;exact (Vt q (by decide)).2;exact (Vt q (by decide)).2
   have hp:1≤remQ l S:=by
    rcases Bool.or_eq_true_iff.1 h9 with q|q;exact Qd q (by decide);exact Qd q (by decide)
   have na:=((Yia hadv).trans (Wx (s:=[40]) (by decide) _)).num hi;refine AS fun _ ga Ca g E=>?_;have h:=Uc h;refine AU ?_;refine CL (Una [112,114,105,110,116] h) ?_;rintro _ _ ⟨rfl,ga⟩;refine RC fun g E=>?_;have h:=Uk h;refine IF (fun h10=>?_) fun h10=>?_;have e10:isQ l S [112,114,105,110,116]=true:=h10;refine AS fun _ ga Ca g E=>?_;have h:=Uc h;refine AU ?_;refine Yq O Va (Zd O) (Zd O) O h.B O O ?_;intro wS25 hgS25 _ BS;replace E:=E.keepT hgS25 h.B rfl;have g:=Wu g hgS25 h.B rfl h.hb;have h:=h.adv hgS25 BS (by first|assumption|omega);refine AU ?_;refine CL (Wj [40] (by decide) h) ?_;rintro _ _ ⟨rfl,h,ga⟩;refine RC fun g E=>?_;refine AU ?_;refine CL (PkN.to (K.ex 1 (by omega)) [b2,b3] h (by omega) (E.ltm (by simp [selB])) g.size) ?_;rintro _ _ ⟨⟨p79,c79,rfl,q79,k79⟩,h,ga⟩;refine RC fun g E=>?_;refine CN fun _ _ ga l80 g E=>?_;have k79:=Uj k79;have h:=Ui h;refine AS fun _ ga Ca g E=>?_;have h:=Uc h;have k79:=Ua k79;refine AU ?_;refine CL (Wj [41] (by decide) h) ?_;rintro _ _ ⟨rfl,h,ga⟩;refine RC fun g E=>?_;have k79:=k79.gtp ga;refine AS fun _ ga Ca g E=>?_;have h:=Uc h;have k79:=Ua k79;refine RTN ?_;have e:stQ l sz x S=(mkN 21 [] 0 (offQ l sz S) [(x.ex 1 (takeQ l [40] (adv S))).1],takeQ l [41] (x.ex 1 (takeQ l [40] (adv S))).2):=by unfold stQ;rw [e1,h4,h9];dsimp only [cond_true,cond_false];rw [e10];rfl
   rw [e];exact ⟨Zr (t:=mkN 21 [] 0 (offQ l sz S) [_]) rfl (Xm (ks:=[_]) ⟨l80,Xa E.g0⟩ E.g0.row (Yc (k79.kdN q79)) (Nat.le_refl _)),h,g⟩;have e10:isQ l S [112,114,105,110,116]=false:=h10;refine AU ?_;refine Yq O Va (Zd O) (Zd O) O h.B O O ?_;intro wS28 hgS28 _ BS;replace E:=E.keepT hgS28 h.B rfl;have g:=Wu g hgS28 h.B rfl h.hb;have h:=h.adv hgS28 BS (by first|assumption|omega);refine AU ?_;refine CL (Wj [40] (by decide) h) ?_;rintro _ _ ⟨rfl,h,ga⟩;refine RC fun g E=>?_;refine AU ?_;refine CL (PkN.to (K.ex 1 (by omega)) [b2,b3] h (by omega) (E.ltm (by simp [selB])) g.size) ?_;rintro _ _ ⟨⟨p79,c79,rfl,q79,k79⟩,h,ga⟩;refine RC fun g E=>?_;refine CN fun _ _ ga l80 g E=>?_;have k79:=Uj k79;have h:=Ui h;refine AS fun _ ga Ca g E=>?_;have h:=Uc h;have k79:=Ua k79;refine AU ?_;refine CL (Wj [41] (by decide) h) ?_;rintro _ _ ⟨rfl,h,ga⟩;refine RC fun g E=>?_;have k79:=k79.gtp ga;refine AS fun _ ga Ca g E=>?_;have h:=Uc h;have k79:=Ua k79;refine RTN ?_;have e:stQ l sz x S=(mkN 17 [] 0 (offQ l sz S) [(x.ex 1 (takeQ l [40] (adv S))).1],takeQ l [41] (x.ex 1 (takeQ l [40] (adv S))).2):=by unfold stQ;rw [e1,h4,h9];dsimp only [cond_true,cond_false];rw [e10];rfl
   rw [e];exact ⟨Zr (t:=mkN 17 [] 0 (offQ l sz S) [_]) rfl (Xm (ks:=[_]) ⟨l80,Xa E.g0⟩ E.g0.row (Yc (k79.kdN q79)) (Nat.le_refl _)),h,g⟩;replace h9:(isQ l S [99,108,111,115,101] || isQ l S [112,114,105,110,116])=false:=h9;skip;refine IF (fun h11=>?_) fun h11=>?_;have e11:isQ l S [105,102]=true:=h11;have hadv:=(Vt e11 (by decide)).2;have hp:=Qd e11 (by decide);have na:=(Xv e11 (by decide)).num hi;refine AU ?_;refine CL (PkN.to (K.ifs) [b2,b3] h (by omega) (E.ltm (by simp [selB])) g.size) ?_;rintro _ _ ⟨⟨p88,c88,rfl,q88,k88⟩,h,ga⟩;refine RC fun g E=>?_;refine AS fun _ ga Ca g E=>?_;have h:=Uc h;have k88:=Ua k88;refine RTN ?_;have e:stQ l sz x S=x.ifs S:=by unfold stQ;rw [e1,h4,h9,e11];rfl
   rw [e];exact ⟨Zr rfl (k88.kdN q88),h,g⟩;have e11:isQ l S [105,102]=false:=h11;refine IF (fun h12=>?_) fun h12=>?_;have e12:isQ l S [102,111,114]=true:=h12;have hadv:=(Vt e12 (by decide)).2;have hp:=Qd e12 (by decide);have na:=(Xv e12 (by decide)).num hi;refine AU ?_;refine Yq O Va (Zd O) (Zd O) O h.B O O ?_;intro wS32 hgS32 _ BS;replace E:=E.keepT hgS32 h.B rfl;have g:=Wu g hgS32 h.B rfl h.hb;have h:=h.adv hgS32 BS (by first|assumption|omega);refine AS fun _ ga Ca g E=>?_;have h:=Uc h;refine AN fun b5 _ ga _ g E=>?_;have h:=Ui h;refine AS fun _ ga Ca g E=>?_;have h:=Uc h;refine AU ?_;refine CL (Una [123] h) ?_;rintro _ _ ⟨rfl,ga⟩;refine RC fun g E=>?_;have h:=Uk h;refine IF (fun h13=>?_) fun h13=>?_;have e13:isQ l (adv S) [123]=false:=by simpa using h13
   have nb:=((Xv e12 (by decide)).trans (X.ex 1 _)).num hi;refine AU ?_;refine CL (PkN.to (K.ex 1 (by omega)) [b2,b3,b5] h (by omega) (E.ltm (by simp [selB])) g.size) ?_;rintro _ _ ⟨⟨p104,c104,rfl,q104,k104⟩,h,ga⟩;refine RC fun g E=>?_;refine AS fun _ ga Ca g E=>?_;have h:=Uc h;have k104:=Ua k104;refine AU ?_;refine Xu (gtP n0) [0,3,1,1,3,2] [0,0,2,7,15,31] mix (by kernel_rfl) [0,1,2,3,4,5] O ?_;have g:=gtd g;replace E:=E.dr;have h:=h.grow (G.drew _);have k104:=k104.grow (G.drew _);refine Wh 0 O O (fun w1 hx=>Zy Zh (Zd O) O (fun _=>(E.g0.gt hx O).row)) (Zx 1 O O (fun _=>Zl (Zd O)) (Zu 2 O O ?_));refine Zv (L':=[3,4,5]) [0,3,2,1,3,2] O O O ?_;refine CL (PkN.to (K.blk) [b2,b3,b5] h (by omega) (E.ltm (by simp [selB])) g.size) ?_;rintro v107 w107 ⟨⟨p107,c107,rfl,q107,k107⟩,h,g107⟩;refine ⟨nw1,?_⟩;have g:=g.trans g107;replace E:=E.gt g107 rfl;have k104:=k104.gtp g107;refine Yj (g107) ?_;refine Zu 3 O O ?_;refine Zv (L':=[4,5]) [0,3,2,1,3,2] O O O ?_;refine CN fun _ _ N108 l108 g E=>?_;have k104:=k104.new N108;have k107:=k107.new N108;have h:=h.grow (N108.g);refine Yj (GT.of_g (N108.g)) ?_;refine Zx 4 O O (fun _=>Zn Zg (Zd O)) (Zu 5 O O ?_);refine Ye (L':=[]) [0,3,2,1,3,2] O O O O ?_;refine AS fun _ ga Ca g E=>?_;have h:=Uc h;have k104:=Ua k104;have k107:=Ua k107;refine Yy ?_;refine TK [0,2,3] ?_;refine AS fun _ ga Ca g E=>?_;have h:=Uc h;have k104:=Ua k104;have k107:=Ua k107;refine RTN ?_;have e:stQ l sz x S=(mkN 19 [] 0 (offQ l sz S) [(x.ex 1 (adv S)).1,(x.blk (x.ex 1 (adv S)).2).1],(x.blk (x.ex 1 (adv S)).2).2):=by unfold stQ;rw [e1,h4,h9,e11,e12];dsimp only [cond_true,cond_false];rw [e13];rfl
   rw [e];exact ⟨Zr (t:=mkN 19 [] 0 (offQ l sz S) [_,_]) rfl (Xm (ks:=[_,_]) ⟨l108,Xa E.g0⟩ E.g0.row (Xj (k104.kdN q104) (Yc (k107.kdN q107))) (Nat.le_refl _)),h,g⟩;have e13:isQ l (adv S) [123]=true:=by simpa using h13
   refine AU ?_;refine Xu (gtP n0) [0,3,1,1,3,2] [0,0,2,7,15,31] mix (by kernel_rfl) [0,1,2,3,4,5] O ?_;have g:=gtd g;replace E:=E.dr;have h:=h.grow (G.drew _);refine Wh 0 O O (fun w1 hx=>Zy Zh (Zd O) O (fun _=>(E.g0.gt hx O).row)) (Zx 1 O O (fun _=>Zl (Zd O)) (Zu 2 O O ?_));refine Zv (L':=[3,4,5]) [0,3,2,1,3,2] O O O ?_;refine CL (PkN.to (K.blk) [b2,b3,b5] h (by omega) (E.ltm (by simp [selB])) g.size) ?_;rintro v107 w107 ⟨⟨p107,c107,rfl,q107,k107⟩,h,g107⟩;refine ⟨nw1,?_⟩;have g:=g.trans g107;replace E:=E.gt g107 rfl;refine Yj (g107) ?_;refine Zu 3 O O ?_;refine Zv (L':=[4,5]) [0,3,2,1,3,2] O O O ?_;refine CN fun _ _ N108 l108 g E=>?_;have k107:=k107.new N108;have h:=h.grow (N108.g);refine Yj (GT.of_g (N108.g)) ?_;refine Zx 4 O O (fun _=>Zn Zg (Zd O)) (Zu 5 O O ?_);refine Ye (L':=[]) [0,3,2,1,3,2] O O O O ?_;refine AS fun _ ga Ca g E=>?_;have h:=Uc h;have k107:=Ua k107;refine Yy ?_;refine TK [0,2,3] ?_;refine AS fun _ ga Ca g E=>?_;have h:=Uc h;have k107:=Ua k107;refine RTN ?_;have e:stQ l sz x S=(mkN 19 [] 0 (offQ l sz S) [nonN,(x.blk (adv S)).1],(x.blk (adv S)).2):=by unfold stQ;rw [e1,h4,h9,e11,e12];dsimp only [cond_true,cond_false];rw [e13];rfl
   rw [e];exact ⟨Zr (t:=mkN 19 [] 0 (offQ l sz S) [nonN,_]) rfl (Xm (ks:=[nonN,_]) ⟨l108,Xa E.g0⟩ E.g0.row (Xj (Wv _ _) (Yc (k107.kdN q107))) (Nat.le_refl _)),h,g⟩;have e12:isQ l S [102,111,114]=false:=h12;refine IF (fun h14=>?_) fun h14=>?_;have e14:isQ l S [114,101,116,117,114,110]=true:=h14;have hadv:=(Vt e14 (by decide)).2;have hp:=Qd e14 (by decide);have na:=(Xv e14 (by decide)).num hi;refine AU ?_;refine Yq O Va (Zd O) (Zd O) O h.B O O ?_;intro wS40 hgS40 _ BS;replace E:=E.keepT hgS40 h.B rfl;have g:=Wu g hgS40 h.B rfl h.hb;have h:=h.adv hgS40 BS (by first|assumption|omega);refine AS fun _ ga Ca g E=>?_;have h:=Uc h;refine AU ?_;refine Yx [3,1,3,3,3,1,3,3,3,3,3,3,0,3,3,3,0,3,3,3] [true,true,true,true,true,true,true,true,true,true,true,true,true,true,true,true,true,true,true,true] [0,1,3,7,15,31,63,127,255,511,1023,2047,4095,511,8703,25087,57855,123391,262143,524287] mix (by kernel_rfl) ?_;have g:=gtd g;replace E:=E.dr;have h:=h.grow (G.drew _);refine AU ?_;refine CL (Una [59] h) ?_;rintro _ _ ⟨rfl,ga⟩;refine RC fun g E=>?_;have h:=Uk h;refine AU ?_;refine CG (fun hc=>Una [125] h) (fun w126 g126=>?_);have g:=gtg g g126;replace E:=E.grow g126;have h:=h.grow (g126);refine IF (fun h15=>?_) fun h15=>?_;replace h15:((!isQ l (adv S) [59] && !isQ l (adv S) [125])&&decide (((adv S).ix:Int)<l.length))=true:=h15;skip;refine AU ?_;refine CL (PkN.to (K.ex 1 (by omega)) [b2,b3] h (by omega) (E.ltm (by simp [selB])) g.size) ?_;rintro _ _ ⟨⟨p142,c142,rfl,q142,k142⟩,h,ga⟩;refine RC fun g E=>?_;refine CN fun _ _ ga l143 g E=>?_;have k142:=Uj k142;have h:=Ui h;refine AS fun _ ga Ca g E=>?_;have h:=Uc h;have k142:=Ua k142
   refine AS fun _ ga Ca g E=>?_;have h:=Uc h;have k142:=Ua k142;refine RTN ?_;have e:stQ l sz x S=(mkN 20 [] 0 (offQ l sz S) [(x.ex 1 (adv S)).1],(x.ex 1 (adv S)).2):=by unfold stQ;rw [e1,h4,h9,e11,e12,e14];dsimp only [cond_true,cond_false];rw [h15];rfl
   rw [e];exact ⟨Zr (t:=mkN 20 [] 0 (offQ l sz S) [_]) rfl (Xm (ks:=[_]) ⟨l143,Xa E.g0⟩ E.g0.row (Yc (k142.kdN q142)) (Nat.le_refl _)),h,g⟩;replace h15:((!isQ l (adv S) [59] && !isQ l (adv S) [125])&&decide (((adv S).ix:Int)<l.length))=false:=h15;skip;refine AS fun _ ga Ca g E=>?_;have h:=Uc h;refine RTN ?_;have e:stQ l sz x S=(mkN 20 [] 0 (offQ l sz S) [],adv S):=by unfold stQ;rw [e1,h4,h9,e11,e12,e14];dsimp only [cond_true,cond_false];rw [h15];rfl
   rw [e];exact ⟨Zr (t:=mkN 20 [] 0 (offQ l sz S) []) rfl (Wv _ _),h,g⟩;have e14:isQ l S [114,101,116,117,114,110]=false:=h14;refine IF (fun h16=>?_) fun h16=>?_;have e16:isQ l S [115,101,108,101,99,116]=true:=h16;have hadv:=(Vt e16 (by decide)).2;have hp:=Qd e16 (by decide);have na:=(Xv e16 (by decide)).num hi;refine AU ?_;refine CL (PkN.to (K.sel) [b2,b3] h (by omega) (E.ltm (by simp [selB])) g.size) ?_;rintro _ _ ⟨⟨p149,c149,rfl,q149,k149⟩,h,ga⟩;refine RC fun g E=>?_;refine AS fun _ ga Ca g E=>?_;have h:=Uc h;have k149:=Ua k149;refine RTN ?_;have e:stQ l sz x S=x.sel S:=by unfold stQ;rw [e1,h4,h9,e11,e12,e14,e16];rfl
   rw [e];exact ⟨Zr rfl (k149.kdN q149),h,g⟩;have e16:isQ l S [115,101,108,101,99,116]=false:=h16;refine IF (fun h17=>?_) fun h17=>?_;have e17:isQ l S [123]=true:=h17;have hadv:=(Vt e17 (by decide)).2;have hp:=Qd e17 (by decide);have na:=(Xv e17 (by decide)).num hi;refine AU ?_;refine CL (PkN.to (K.blk) [b2,b3] h (by omega) (E.ltm (by simp [selB])) g.size) ?_;rintro _ _ ⟨⟨p153,c153,rfl,q153,k153⟩,h,ga⟩;refine RC fun g E=>?_;refine AS fun _ ga Ca g E=>?_;have h:=Uc h;have k153:=Ua k153;refine RTN ?_;have e:stQ l sz x S=x.blk S:=by unfold stQ;rw [e1,h4,h9,e11,e12,e14,e16,e17];rfl
   rw [e];exact ⟨Zr rfl (k153.kdN q153),h,g⟩;have e17:isQ l S [123]=false:=h17;refine AU ?_;refine CL (PkN.to (K.sim false) [b2,b3] h (by omega) (E.ltm (by simp [selB])) g.size) ?_;rintro _ _ ⟨⟨p155,c155,rfl,q155,k155⟩,h,ga⟩;refine RC fun g E=>?_;refine AS fun _ ga Ca g E=>?_;have h:=Uc h;have k155:=Ua k155;refine RTN ?_;have e:stQ l sz x S=x.sim false S:=by unfold stQ;rw [e1,h4,h9,e11,e12,e14,e16,e17];rfl
   rw [e];exact ⟨Zr rfl (k155.kdN q155),h,g⟩
end
set_option maxHeartbeats 2000000
theorem Qle(l:List UInt8)(hd:allD l)(hne:l≠[])(hl:l.length≤20000)(w:World):Ret PP Qtb #[Str l] w fun v w'=>v = .tuple #[.int .i64 (intQ l),.bool (intOk l)]∧G w w':=by
 have g:=G.refl w;refine WK 46 [0] Xbb ?_;refine AU ?_;refine Zj O O O (fun _=>Jq Yv (Zm O id) Xg (fun hc=>by have:=of_decide_eq_true hc.2;omega)) ?_;refine IF (fun h1=>?_) fun h1=>?_
 ·have hN:intOk l=false∧intQ l=0:=by
   rw [intOk,intQ];rw [Wdh hne,Bool.false_or] at h1;by_cases h19:l.length≤19
   ·rw [Wdh (by omega:¬ (19:Int)<l.length),Bool.false_or] at h1
    replace h1:(decide ((1:Int)<l.length)&&decide (cAt l 0=48))=true:=h1;rw [h1];exact ⟨by simp,by simp⟩
   · rw [Wdh h19];exact ⟨rfl,rfl⟩
  refine RTN ?_;exact ⟨by rw [hN.1,hN.2],g⟩
 have h19:l.length≤19:=by
  cases h0:decide ((19:Int)<l.length)
  · have:=of_decide_eq_false h0;omega
  · rw [h0] at h1;simp at h1
 have hN:intOk l=decide ((valN 0 l:Int)<9223372036854775808)∧intQ l=IntKind.i64.wrap (valN 0 l:Nat):=by
  rw [intOk,intQ];rw [Wdh hne,Wdh (by omega:¬ (19:Int)<l.length),Bool.false_or,Bool.false_or] at h1;replace h1:(decide ((1:Int)<l.length)&&decide (cAt l 0=48))=false:=h1;rw [h1,Weh h19,Bool.not_false,Bool.and_true,Bool.true_and];exact ⟨rfl,cond_true _ _⟩
 have h10:(10:Nat) ^ 19=10000000000000000000:=by decide
 refine AU ?_;refine Wta (fun (i:Nat) u=>i≤l.length∧G w u) (fun i=>[(0,True,Str l),(4,True,.int .u64 (valN 0 (l.take i):Nat)),(5,True,.int .i64 i)]) (fun i=>l.length-i) 0 ⟨by omega,g⟩ (Za O (Za O (Za O (Zo _)))) ?_;rintro i u ⟨hi,g⟩;refine IF (fun h2=>?_) fun h2=>?_
 ·replace h2:i<l.length:=by simp only [decide_eq_true_eq] at h2;omega
  obtain ⟨e,hb,hc1,hc2⟩:=Jqd h2 hd;have hb2:valN 0 (l.take i)<10 ^ 18:=Nat.lt_of_lt_of_le hb (Nat.pow_le_pow_right (by decide) (by omega));have h18:(10:Nat) ^ 18=1000000000000000000:=by decide
  rw [h18] at hb2;refine AU ?_;refine CP (Wfb _ _) (fun w32 g32=>?_);have g:=g.trans g32;refine IF (fun h3=>?_) fun h3=>?_
  ·exfalso
   replace h3:(!digitB (cAt l i))=true:=h3;rw [digitB,Weh hc1,Weh hc2] at h3;cases h3;done
  skip;refine Yb (kq (Wf [3,3,3,3,3,3,3,3,3] (Zp O (Zq O (fun _=>Ynf (r:=10*((valN 0 (l.take i):Nat):Int)) Xg (Zd O) (fun hc=>Urc ⟨by omega,by omega⟩)) (Zp O (Zp O (Zq O (fun _=>Jq Yv (Zd O) (Zd O) (fun _=>by omega)) (Zq O (fun _=>Ycd (r:=cAt l i-48) (Zd O) Xg (fun hc=>Jvg ⟨by show 0≤cAt l i-48;omega,by show cAt l i-48≤255;omega⟩)) (Zq O (fun _=>Xue (r:=cAt l i-48) Wte Zdc (Zd O) (fun hc=>Urc ⟨by omega,by omega⟩)) (Zq O (fun _=>Ymf (r:=((valN 0 (l.take (i+1)):Nat):Int)) (Zd O) (Zd O) (fun hc=>(by rw [e];exact Urc ⟨by omega,by omega⟩))) (Yr O (Ze (kq (Zk (Zp O (Jta O O (by omega) (Yr O (?_))))))))))))))))));refine Vf [(0,_,_),(4,_,_),(5,_,_)] (Za O (Za O (Za O (Zo _)))) (Ze (fun a ha=>?_));exact ⟨i+1,ha,⟨h2,g⟩,by omega⟩
 have hi:i=l.length:=by simp only [decide_eq_false_iff_not] at h2;omega
 subst hi;refine Jl O (kq (Zi (Wf [3,3,3,3,3,3] (Zp O (Zq O (fun _=>Jud Zdc Qnf (Zd O)) (Zp O (Xna O O (Yr O (Yr O (Ze (kq (Xe (Wkb (ts:=[2,3]) (vs:=[_,_]) O O O ?_)))))))))))));refine ⟨?_,g⟩;rw [hN.1,hN.2];have e:l.take l.length=l:=List.take_length;rw [e]
def TkOk(l:List Tok):Prop:=∀ t∈l,t.kind=2→allD t.text∧t.text≠[]∧t.text.length≤20000
section
variable {l:List Tok} {sz:Int} {m:Nat} {x:Pz}
theorem Xrh(ht:TkOk l)(X:PzD l x)(K:PzOk l sz m x):PkN l sz (m+1) 0 Uka [] (opdQ l sz x):=by
 intro n0 b tc tp S w h hm;have hi:=h.hi;have hl:=h.hl;have hlt:=h.lt;have g:=GT.refl mutP n0 w;refine WK 165 [0] Xjb ?_;refine AM fun b2 _ ga _ g E=>?_;have h:=Ui h;refine AU ?_;refine CL (Vw h) ?_;rintro _ _ ⟨rfl,ga⟩;refine RC fun g E=>?_;have h:=Uk h;refine AN fun b3 _ ga _ g E=>?_;have h:=Ui h;refine AS fun _ ga Ca g E=>?_;have h:=Uc h;refine AU ?_;refine CL (Zrc 1 0 (by omega) h) ?_;rintro _ _ ⟨rfl,ga⟩;refine RC fun g E=>?_;have h:=Uk h;refine IF (fun h1=>?_) fun h1=>?_;have e1:isK l S 1 0=true:=h1;refine AS fun _ ga Ca g E=>?_;have h:=Uc h;refine AU ?_;refine CL (Qfa h) ?_;rintro _ _ ⟨rfl,h,ga⟩;refine RC fun g E=>?_;refine AS fun _ ga Ca g E=>?_;have h:=Uc h;refine AS fun _ ga Ca g E=>?_;have h:=Uc h;refine RTN ?_;have e:opdQ l sz x S=(mkN 27 (nameQ l S).1 0 (offQ l sz S) [],(nameQ l S).2):=by unfold opdQ;rw [e1];rfl
 rw [e];exact ⟨Zr (t:=mkN 27 (nameQ l S).1 0 (offQ l sz S) []) rfl (Wv _ _),h,g⟩;have e1:isK l S 1 0=false:=h1;refine AU ?_;refine CL (Zrc 2 0 (by omega) h) ?_;rintro _ _ ⟨rfl,ga⟩;refine RC fun g E=>?_;have h:=Uk h;refine IF (fun h2=>?_) fun h2=>?_;have e2:isK l S 2 0=true:=h2;have hadv:S.ix<l.length:=(Vmd e2).2
 have hk2:(tkn l S.ix).kind=2:=by
  have:=(Bool.and_eq_true_iff.1 e2).2;exact of_decide_eq_true this
 have hmem:tkn l S.ix∈l:=by
  have e:tkn l S.ix=l[S.ix]:=by simp [tkn,List.getD_eq_getElem?_getD,List.getElem?_eq_getElem hadv]
  rw [e];exact List.getElem_mem hadv
 obtain ⟨t1,t2,t3⟩:=ht _ hmem hk2;refine AS fun _ ga Ca g E=>?_;have h:=Uc h;refine Ze (kq (Zi (Yx [3,3,3,0,3,3,3,0,3,3,0,1,3,3,3,3,2] [true,true,true,true,true,true,true,true,true,true,true,true,true,true,true,true,true] [0,1,3,7,0,16,48,112,255,511,1023,2047,4095,8191,8191,16383,49151] mix (by kernel_rfl) ?_)));have g:=gtd g;replace E:=E.dr;have h:=h.grow (G.drew _);refine Zp O (Qq O (Yf Ur O (Yp Vn O (h.B.at_ O) (Zp O (Qq O (Yf Qt O (Yp Yh O (h.B.at_ O) (Zq O (fun _=>Xb Xf (Zd O) (Zd O) (fun hc=>by omega) (fun hc=>(Qsc h.ht S.ix hadv).1)) (Yf Ja O (Wia O (Zw Yg (Zd O) (fun hc=>((Qsc h.ht S.ix hadv).2).one (i:=1) O)) (Vg O (Yi Qub Vc (aqc O aq0) O) (Qle (tkn l S.ix).text t1 t2 t3 _) (fun w29 g29=>?_))))))))))));have g:=gtg g g29;replace E:=E.grow g29;have h:=h.grow (g29);refine AS fun _ ga Ca g E=>?_;have h:=Uc h;refine AU ?_;refine Yq O Va (Zd O) (Zd O) O h.B O O ?_;intro wS7 hgS7 _ BS;replace E:=E.keepT hgS7 h.B rfl;have g:=Wu g hgS7 h.B rfl h.hb;have h:=h.adv hgS7 BS (by first|assumption|omega);refine AS fun _ ga Ca g E=>?_;have h:=Uc h;refine RTN ?_;have e:opdQ l sz x S=(mkN 24 [] (intQ (tkn l S.ix).text) (offQ l sz S) [],adv S):=by unfold opdQ;rw [e1,e2];rfl
 rw [e];exact ⟨Zr (t:=mkN 24 [] (intQ (tkn l S.ix).text) (offQ l sz S) []) rfl (Wv _ _),h,g⟩;have e2:isK l S 2 0=false:=h2;refine AU ?_;refine CL (Qea 0 (by omega) h) ?_;rintro _ _ ⟨rfl,ga⟩;refine RC fun g E=>?_;have h:=Uk h;refine AU ?_;refine' OR [0,2,3,42] (fun hb3=>?y3) (kq ?n3)
 case y3 =>
  refine AU ?_;refine SK [45,0,2,3,42] ?_;exact Ze knr
 case n3 =>
  refine IF (fun h4=>?_) fun h4=>?_;replace h4:(isQ l S [116,114,117,101] || isQ l S [102,97,108,115,101])=true:=h4
  have hadv:S.ix<l.length:=by
   rcases Bool.or_eq_true_iff.1 h4 with q|q;exact (Vt q (by decide)).2;exact (Vt q (by decide)).2
  refine AS fun _ ga Ca g E=>?_;have h:=Uc h;refine AU ?_;refine CL (Una [116,114,117,101] h) ?_;rintro _ _ ⟨rfl,ga⟩;refine RC fun g E=>?_;have h:=Uk h;refine IF (fun h5=>?_) fun h5=>?_;have e5:isQ l S [116,114,117,101]=true:=h5;refine AS fun _ ga Ca g E=>?_;have h:=Uc h;refine AU ?_;refine Yq O Va (Zd O) (Zd O) O h.B O O ?_;intro wS11 hgS11 _ BS;replace E:=E.keepT hgS11 h.B rfl;have g:=Wu g hgS11 h.B rfl h.hb;have h:=h.adv hgS11 BS (by first|assumption|omega);refine AS fun _ ga Ca g E=>?_;have h:=Uc h;refine RTN ?_;have e:opdQ l sz x S=(mkN 25 [] 1 (offQ l sz S) [],adv S):=by unfold opdQ;rw [e1,e2,h4];dsimp only [cond_true,cond_false];rw [e5];rfl
  rw [e];exact ⟨Zr (t:=mkN 25 [] 1 (offQ l sz S) []) rfl (Wv _ _),h,g⟩;have e5:isQ l S [116,114,117,101]=false:=h5;refine AU ?_;refine Yq O Va (Zd O) (Zd O) O h.B O O ?_;intro wS13 hgS13 _ BS;replace E:=E.keepT hgS13 h.B rfl;have g:=Wu g hgS13 h.B rfl h.hb;have h:=h.adv hgS13 BS (by first|assumption|omega);refine AS fun _ ga Ca g E=>?_;have h:=Uc h;refine RTN ?_;have e:opdQ l sz x S=(mkN 25 [] 0 (offQ l sz S) [],adv S):=by unfold opdQ;rw [e1,e2,h4];dsimp only [cond_true,cond_false];rw [e5];rfl
  rw [e];exact ⟨Zr (t:=mkN 25 [] 0 (offQ l sz S) []) rfl (Wv _ _),h,g⟩;replace h4:(isQ l S [116,114,117,101] || isQ l S [102,97,108,115,101])=false:=h4;skip;refine IF (fun h6=>?_) fun h6=>?_;have e6:isQ l S [110,105,108]=true:=h6;have hadv:=(Vt e6 (by decide)).2;have hp:=Qd e6 (by decide);have na:=(Xv e6 (by decide)).num hi;refine AS fun _ ga Ca g E=>?_;have h:=Uc h;refine AU ?_;refine Yq O Va (Zd O) (Zd O) O h.B O O ?_;intro wS16 hgS16 _ BS;replace E:=E.keepT hgS16 h.B rfl;have g:=Wu g hgS16 h.B rfl h.hb;have h:=h.adv hgS16 BS (by first|assumption|omega);refine AS fun _ ga Ca g E=>?_;have h:=Uc h;refine RTN ?_;have e:opdQ l sz x S=(mkN 26 [] 0 (offQ l sz S) [],adv S):=by unfold opdQ;rw [e1,e2,h4,e6];rfl
  rw [e];exact ⟨Zr (t:=mkN 26 [] 0 (offQ l sz S) []) rfl (Wv _ _),h,g⟩;have e6:isQ l S [110,105,108]=false:=h6;refine IF (fun h7=>?_) fun h7=>?_;have e7:isQ l S [40]=true:=h7;have hadv:=(Vt e7 (by decide)).2;have hp:=Qd e7 (by decide);have na:=(Xv e7 (by decide)).num hi;refine AU ?_;refine Yq O Va (Zd O) (Zd O) O h.B O O ?_;intro wS18 hgS18 _ BS;replace E:=E.keepT hgS18 h.B rfl;have g:=Wu g hgS18 h.B rfl h.hb;have h:=h.adv hgS18 BS (by first|assumption|omega);refine AU ?_;refine CL (PkN.to (K.ex 1 (by omega)) [b2,b3] h (by omega) (E.ltm (by simp [selB])) g.size) ?_;rintro _ _ ⟨⟨p79,c79,rfl,q79,k79⟩,h,ga⟩;refine RC fun g E=>?_;refine AS fun _ ga Ca g E=>?_;have h:=Uc h;have k79:=Ua k79;refine AU ?_;refine CL (Wj [41] (by decide) h) ?_;rintro _ _ ⟨rfl,h,ga⟩;refine RC fun g E=>?_;have k79:=k79.gtp ga;refine AS fun _ ga Ca g E=>?_;have h:=Uc h;have k79:=Ua k79;refine RTN ?_;have e:opdQ l sz x S=((x.ex 1 (adv S)).1,takeQ l [41] (x.ex 1 (adv S)).2):=by unfold opdQ;rw [e1,e2,h4,e6,e7];rfl
  rw [e];exact ⟨Zr rfl (k79.kdN q79),h,g⟩;have e7:isQ l S [40]=false:=h7;refine IF (fun h8=>?_) fun h8=>?_;have e8:isQ l S [110,101,119]=true:=h8;have hadv:=(Vt e8 (by decide)).2;have hp:=Qd e8 (by decide);have na:=(Xv e8 (by decide)).num hi;refine AS fun _ ga Ca g E=>?_;have h:=Uc h;refine AU ?_;refine Yq O Va (Zd O) (Zd O) O h.B O O ?_;intro wS22 hgS22 _ BS;replace E:=E.keepT hgS22 h.B rfl;have g:=Wu g hgS22 h.B rfl h.hb;have h:=h.adv hgS22 BS (by first|assumption|omega);refine AU ?_;refine CL (Wj [40] (by decide) h) ?_;rintro _ _ ⟨rfl,h,ga⟩;refine RC fun g E=>?_;refine AU ?_;refine CL (Qfa h) ?_;rintro _ _ ⟨rfl,h,ga⟩;refine RC fun g E=>?_;refine AS fun _ ga Ca g E=>?_;have h:=Uc h;refine AU ?_;refine CL (Wj [41] (by decide) h) ?_;rintro _ _ ⟨rfl,h,ga⟩;refine RC fun g E=>?_;refine AS fun _ ga Ca g E=>?_;have h:=Uc h;refine RTN ?_;have e:opdQ l sz x S=(mkN 34 (nameQ l (takeQ l [40] (adv S))).1 0 (offQ l sz S) [],takeQ l [41] (nameQ l (takeQ l [40] (adv S))).2):=by unfold opdQ;rw [e1,e2,h4,e6,e7,e8];rfl
  rw [e];exact ⟨Zr (t:=mkN 34 (nameQ l (takeQ l [40] (adv S))).1 0 (offQ l sz S) []) rfl (Wv _ _),h,g⟩;have e8:isQ l S [110,101,119]=false:=h8;refine IF (fun h9=>?_) fun h9=>?_;have e9:isQ l S [108,101,110]=true:=h9;have hadv:=(Vt e9 (by decide)).2;have hp:=Qd e9 (by decide);have na:=(Xv e9 (by decide)).num hi;have nb:=((Xv e9 (by decide)).trans (Wx (s:=[40]) (by decide) _)).num hi;refine AS fun _ ga Ca g E=>?_;have h:=Uc h;refine AU ?_;refine Yq O Va (Zd O) (Zd O) O h.B O O ?_;intro wS26 hgS26 _ BS;replace E:=E.keepT hgS26 h.B rfl;have g:=Wu g hgS26 h.B rfl h.hb;have h:=h.adv hgS26 BS (by first|assumption|omega);refine AU ?_;refine CL (Wj [40] (by decide) h) ?_;rintro _ _ ⟨rfl,h,ga⟩;refine RC fun g E=>?_;refine AU ?_;refine CL (PkN.to (K.ex 1 (by omega)) [b2,b3] h (by omega) (E.ltm (by simp [selB])) g.size) ?_;rintro _ _ ⟨⟨p112,c112,rfl,q112,k112⟩,h,ga⟩;refine RC fun g E=>?_;refine CN fun _ _ ga l113 g E=>?_;have k112:=Uj k112;have h:=Ui h;refine AS fun _ ga Ca g E=>?_;have h:=Uc h;have k112:=Ua k112;refine AU ?_;refine CL (Wj [41] (by decide) h) ?_;rintro _ _ ⟨rfl,h,ga⟩;refine RC fun g E=>?_;have k112:=k112.gtp ga;refine AS fun _ ga Ca g E=>?_;have h:=Uc h;have k112:=Ua k112;refine RTN ?_;have e:opdQ l sz x S=(mkN 37 [] 0 (offQ l sz S) [(x.ex 1 (takeQ l [40] (adv S))).1],takeQ l [41] (x.ex 1 (takeQ l [40] (adv S))).2):=by unfold opdQ;rw [e1,e2,h4,e6,e7,e8,e9];rfl
  rw [e];exact ⟨Zr (t:=mkN 37 [] 0 (offQ l sz S) [_]) rfl (Xm (ks:=[_]) ⟨l113,Xa E.g0⟩ E.g0.row (Yc (k112.kdN q112)) (Nat.le_refl _)),h,g⟩;have e9:isQ l S [108,101,110]=false:=h9;refine IF (fun h10=>?_) fun h10=>?_;have e10:isQ l S [109,97,107,101]=true:=h10;have hadv:=(Vt e10 (by decide)).2;have hp:=Qd e10 (by decide);have na:=(Xv e10 (by decide)).num hi;have nb:=((Xv e10 (by decide)).trans ((Wx (s:=[40]) (by decide) _).tle (Xyf _))).num hi;refine AU ?_;refine Yq O Va (Zd O) (Zd O) O h.B O O ?_;intro wS29 hgS29 _ BS;replace E:=E.keepT hgS29 h.B rfl;have g:=Wu g hgS29 h.B rfl h.hb;have h:=h.adv hgS29 BS (by first|assumption|omega);refine AU ?_;refine CL (Wj [40] (by decide) h) ?_;rintro _ _ ⟨rfl,h,ga⟩;refine RC fun g E=>?_;refine AS fun _ ga Ca g E=>?_;have h:=Uc h;refine AU ?_;refine CL (Zxa [99,104,97,110] (by decide) h) ?_;rintro _ _ ⟨rfl,h,ga⟩;refine RC fun g E=>?_;refine IF (fun h11=>?_) fun h11=>?_;have e11:isQ l (takeQ l [40] (adv S)) [99,104,97,110]=true:=h11;rw [e11] at h;simp only [cond_true] at h;refine AS fun _ ga Ca g E=>?_;have h:=Uc h;refine AU ?_;refine CL (Wj [105,110,116] (by decide) h) ?_;rintro _ _ ⟨rfl,h,ga⟩;refine RC fun g E=>?_;refine AU ?_;refine CL (Wj [44] (by decide) h) ?_;rintro _ _ ⟨rfl,h,ga⟩;refine RC fun g E=>?_;refine AU ?_;have em:mkeQ l (takeQ l [40] (adv S))=takeQ l [44] (takeQ l [105,110,116] (bif isQ l (takeQ l [40] (adv S)) [99,104,97,110] then adv (takeQ l [40] (adv S)) else takeQ l [93] (takeQ l [91] (takeQ l [40] (adv S))))):=rfl;rw [e11] at em;simp only [cond_true,cond_false] at em;rw [← em] at h;refine CL (PkN.to (K.ex 1 (by omega)) [b2,b3] h (by omega) (E.ltm (by simp [selB])) g.size) ?_
  rintro _ _ ⟨⟨p141,c141,rfl,q141,k141⟩,h,ga⟩;refine RC fun g E=>?_;refine CN fun _ _ ga l142 g E=>?_;have k141:=Uj k141;have h:=Ui h;refine AS fun _ ga Ca g E=>?_;have h:=Uc h;have k141:=Ua k141;refine AU ?_;refine CL (Wj [41] (by decide) h) ?_;rintro _ _ ⟨rfl,h,ga⟩;refine RC fun g E=>?_;have k141:=k141.gtp ga;refine AS fun _ ga Ca g E=>?_;have h:=Uc h;have k141:=Ua k141;refine RTN ?_;have e:opdQ l sz x S=(mkN 36 [] 0 (offQ l sz S) [(x.ex 1 (mkeQ l (takeQ l [40] (adv S)))).1],takeQ l [41] (x.ex 1 (mkeQ l (takeQ l [40] (adv S)))).2):=by unfold opdQ;rw [e1,e2,h4,e6,e7,e8,e9,e10];dsimp only [cond_true,cond_false];rw [e11];rfl
  rw [e];exact ⟨Zr (t:=mkN 36 [] 0 (offQ l sz S) [_]) rfl (Xm (ks:=[_]) ⟨l142,Xa E.g0⟩ E.g0.row (Yc (k141.kdN q141)) (Nat.le_refl _)),h,g⟩;have e11:isQ l (takeQ l [40] (adv S)) [99,104,97,110]=false:=h11;rw [e11] at h;simp only [cond_false] at h;refine AU ?_;refine CL (Wj [91] (by decide) h) ?_;rintro _ _ ⟨rfl,h,ga⟩;refine RC fun g E=>?_;refine AU ?_;refine CL (Wj [93] (by decide) h) ?_;rintro _ _ ⟨rfl,h,ga⟩;refine RC fun g E=>?_;refine AU ?_;refine CL (Wj [105,110,116] (by decide) h) ?_;rintro _ _ ⟨rfl,h,ga⟩;refine RC fun g E=>?_;refine AU ?_;refine CL (Wj [44] (by decide) h) ?_;rintro _ _ ⟨rfl,h,ga⟩;refine RC fun g E=>?_;refine AU ?_;have em:mkeQ l (takeQ l [40] (adv S))=takeQ l [44] (takeQ l [105,110,116] (bif isQ l (takeQ l [40] (adv S)) [99,104,97,110] then adv (takeQ l [40] (adv S)) else takeQ l [93] (takeQ l [91] (takeQ l [40] (adv S))))):=rfl;rw [e11] at em;simp only [cond_true,cond_false] at em;rw [← em] at h;refine CL (PkN.to (K.ex 1 (by omega)) [b2,b3] h (by omega) (E.ltm (by simp [selB])) g.size) ?_;rintro _ _ ⟨⟨p141,c141,rfl,q141,k141⟩,h,ga⟩;refine RC fun g E=>?_;refine CN fun _ _ ga l142 g E=>?_;have k141:=Uj k141;have h:=Ui h;refine AS fun _ ga Ca g E=>?_;have h:=Uc h;have k141:=Ua k141;refine AU ?_;refine CL (Wj [41] (by decide) h) ?_;rintro _ _ ⟨rfl,h,ga⟩;refine RC fun g E=>?_;have k141:=k141.gtp ga;refine AS fun _ ga Ca g E=>?_;have h:=Uc h;have k141:=Ua k141;refine RTN ?_;have e:opdQ l sz x S=(mkN 35 [] 0 (offQ l sz S) [(x.ex 1 (mkeQ l (takeQ l [40] (adv S)))).1],takeQ l [41] (x.ex 1 (mkeQ l (takeQ l [40] (adv S)))).2):=by unfold opdQ;rw [e1,e2,h4,e6,e7,e8,e9,e10];dsimp only [cond_true,cond_false];rw [e11];rfl
  rw [e];exact ⟨Zr (t:=mkN 35 [] 0 (offQ l sz S) [_]) rfl (Xm (ks:=[_]) ⟨l142,Xa E.g0⟩ E.g0.row (Yc (k141.kdN q141)) (Nat.le_refl _)),h,g⟩;have e10:isQ l S [109,97,107,101]=false:=h10;refine IF (fun h12=>?_) fun h12=>?_;have e12:isQ l S [102,117,110,99]=true:=h12;have hadv:=(Vt e12 (by decide)).2;have hp:=Qd e12 (by decide);have na:=(Xv e12 (by decide)).num hi;have nb:=((Xv e12 (by decide)).trans ((Wx (s:=[40]) (by decide) _).trans (Wx (s:=[41]) (by decide) _))).num hi;refine AS fun _ ga Ca g E=>?_;have h:=Uc h;refine AU ?_;refine Yq O Va (Zd O) (Zd O) O h.B O O ?_;intro wS37 hgS37 _ BS;replace E:=E.keepT hgS37 h.B rfl;have g:=Wu g hgS37 h.B rfl h.hb;have h:=h.adv hgS37 BS (by first|assumption|omega);refine AU ?_;refine CL (Wj [40] (by decide) h) ?_;rintro _ _ ⟨rfl,h,ga⟩;refine RC fun g E=>?_;refine AU ?_;refine CL (Wj [41] (by decide) h) ?_;rintro _ _ ⟨rfl,h,ga⟩;refine RC fun g E=>?_;refine AU ?_;refine CL (PkN.to (K.blk) [b2,b3] h (by omega) (E.ltm (by simp [selB])) g.size) ?_;rintro _ _ ⟨⟨p161,c161,rfl,q161,k161⟩,h,ga⟩;refine RC fun g E=>?_;refine CN fun _ _ ga l162 g E=>?_;have k161:=Uj k161;have h:=Ui h;refine AS fun _ ga Ca g E=>?_;have h:=Uc h;have k161:=Ua k161;refine AS fun _ ga Ca g E=>?_;have h:=Uc h;have k161:=Ua k161;refine RTN ?_;have e:opdQ l sz x S=(mkN 38 [] 0 (offQ l sz S) [(x.blk (takeQ l [41] (takeQ l [40] (adv S)))).1],(x.blk (takeQ l [41] (takeQ l [40] (adv S)))).2):=by unfold opdQ;rw [e1,e2,h4,e6,e7,e8,e9,e10,e12];rfl
  rw [e];exact ⟨Zr (t:=mkN 38 [] 0 (offQ l sz S) [_]) rfl (Xm (ks:=[_]) ⟨l162,Xa E.g0⟩ E.g0.row (Yc (k161.kdN q161)) (Nat.le_refl _)),h,g⟩;have e12:isQ l S [102,117,110,99]=false:=h12;refine AU ?_;refine CL (Uda h) ?_;rintro _ _ ⟨rfl,h,ga⟩;refine RC fun g E=>?_;refine AS fun _ ga Ca g E=>?_;have h:=Uc h;refine RTN ?_;have e:opdQ l sz x S=(mkN 0 [] 0 (offQ l sz S) [],failQ S):=by unfold opdQ;rw [e1,e2,h4,e6,e7,e8,e9,e10,e12];rfl
  rw [e];exact ⟨Zr (t:=mkN 0 [] 0 (offQ l sz S) []) rfl (Wv _ _),h,g⟩
end
section
variable {l:List Tok} {sz:Int} {m:Nat} {x:Pz}
theorem Xya{rk:Nat}{fn:FuncId}{a:List Value}{X:PSt→Nd×PSt}:PkN l sz 0 rk fn a X:=fun _ h=>absurd h (Nat.not_lt_zero _)
theorem Xsh:PzOk l sz 0 pz0 :=
 ⟨fun c=>by
 intro n0 b tc tp S w h hm;have hb:S.bad=true:=hm.elim id (fun h=>absurd h (Nat.not_lt_zero _));have H:=Qke (m:=0) (x:=pz0) (sz:=sz) Zgh Xya c h (.inl hb);have hc:stsC l c S=false:=by unfold stsC;rw [hb];rfl
 have e:stsQ l pz0 c S=([],S):=by unfold stsQ;rw [stsL,hc];rfl
 rw [e] at H;exact H,Xya,Xya,Xya,fun _=>Xya,Xya,Xya,fun _ _=>Xya,Xya,Xya,Xya⟩
theorem Xth(ht:TkOk l)(X:PzD l x)(K:PzOk l sz m x):PzOk l sz (m+1) (pzF l sz x) :=
 ⟨Qke X K.st,Wjg X K,Xmh X K,Xnh X K,Xoh X K,Xqh X K,Jfg X K,ex_ok X K,un_ok X K,Xph X K,Xrh ht X K⟩
theorem Wkg(ht:TkOk l):∀ n,PzOk l sz n (pzN l sz n)
 | 0=>Xsh
 | n+1=>Xth ht (Wgg n) (Wkg ht n)
end
set_option maxHeartbeats 2000000
section
variable {l:List Tok} {sz:Int} {m:Nat} {x:Pz}
theorem Xke{T:PSt}:8*remQ l T+0<8*l.length+100:=by have:=Ufa (S:=T) (l:=l);omega
theorem Jgg(X:PzD l x)(K:PzOk l sz m x):PkN l sz (m+1) 0 Xtc [] (declQ l sz x):=by
 intro n0 b tc tp S w h hm;have hi:=h.hi;have hl:=h.hl;have hlt:=h.lt;have g:=GT.refl mutP n0 w;refine WK 109 [0] Qgb ?_;refine AM fun b2 _ ga _ g E=>?_;have h:=Ui h;refine AU ?_;refine CL (Vw h) ?_;rintro _ _ ⟨rfl,ga⟩;refine RC fun g E=>?_;have h:=Uk h;refine AN fun b3 _ ga _ g E=>?_;have h:=Ui h;refine AS fun _ ga Ca g E=>?_;have h:=Uc h;refine AU ?_;refine CL (Qea 0 (by omega) h) ?_;rintro _ _ ⟨rfl,ga⟩;refine RC fun g E=>?_;have h:=Uk h;refine IF (fun h1=>?_) fun h1=>?_;have e1:isQ l S [116,121,112,101]=true:=h1;have hadv:=(Vt e1 (by decide)).2;have r1:=Qd e1 (by decide);have q1:=(Xv e1 (by decide)).trans (Zba (adv S));have n1:=q1.num hi;refine AS fun _ ga Ca g E=>?_;have h:=Uc h;refine AU ?_;refine Yq O Va (Zd O) (Zd O) O h.B O O ?_;intro wS3 hgS3 _ BS;replace E:=E.keepT hgS3 h.B rfl;have g:=Wu g hgS3 h.B rfl h.hb;have h:=h.adv hgS3 BS (by first|assumption|omega);refine AU ?_;refine CL (Qfa h) ?_;rintro _ _ ⟨rfl,h,ga⟩;refine RC fun g E=>?_;refine AS fun _ ga Ca g E=>?_;have h:=Uc h;refine AU ?_;refine CL (Wj [115,116,114,117,99,116] (by decide) h) ?_;rintro _ _ ⟨rfl,h,ga⟩;refine RC fun g E=>?_;refine AU ?_;refine CL (Wj [123] (by decide) h) ?_;rintro _ _ ⟨rfl,h,ga⟩;refine RC fun g E=>?_;refine AU ?_;have hnd1:=E.1
 refine Xo (fun (y:Nat×List Nd×PSt) u1=>match y with|⟨f,acc,T⟩=>(PR l sz n0 b tp tc T u1∧strL l sz f acc T=strL l sz (l.length+2) [] (takeQ l [123] (takeQ l [115,116,114,117,99,116] (nameQ l (adv S)).2))∧remQ l T≤f∧acc.length+f≤l.length+2∧∃ s,Blk u1 b3 Ys (ndCells (mkN 2 (nameQ l (adv S)).1 0 (offQ l sz S) []) s)∧OwnN [b2,b3] w.heap.size u1 acc s)∧GT mutP n0 w u1) _ [(0,True,_),(2,True,_),(3,True,_)] (fun (y:Nat×List Nd×PSt)=>match y with|⟨f,acc,T⟩=>[]) (fun (y:Nat×List Nd×PSt)=>match y with|⟨f,acc,T⟩=>f) ((l.length+2,[],(takeQ l [123] (takeQ l [115,116,114,117,99,116] (nameQ l (adv S)).2)))) ⟨⟨h,rfl,by have:=Ufa (S:=(takeQ l [123] (takeQ l [115,116,114,117,99,116] (nameQ l (adv S)).2))) (l:=l);omega,by simp,_,E.g0,Wqa _ _ _⟩,g⟩ (Zs (blkE E.g1) (Zz _)) (Za O (Za O (Za O (Zo _)))) ?_;clear E;rintro ⟨f,acc,T⟩ u1 ⟨hI1,gl1⟩ ⟨B2,_⟩;replace B2:Blk _ _ _ _:=B2;have g:=gl1;obtain ⟨h,he,hf,hac,s,B3,hO⟩:=hI1;obtain ⟨sa,sc,rfl⟩:=hO.slice;have hOlt:=hO.lt;have hTi:=h.hi;have E:=Jo (L:=[(b3,_,_),(b2,_,_)]) hnd1 ⟨B3,B2,trivial⟩ rfl;refine AU ?_;refine CG (fun hc=>Una [125] h) (fun w37 g37=>?_);have g:=gtg g g37;replace E:=E.grow g37;have h:=h.grow (g37);have hO:=hO.grow (g37);refine IF (fun h2=>?_) fun h2=>?_;replace h2:(!T.bad && !isQ l T [125])=true:=h2;have hnb:T.bad=false:=by simpa using (Bool.and_eq_true_iff.1 h2).1
 have hp:=Uea (l:=l) hnb;obtain ⟨f',rfl⟩:∃ f',f=f'+1:=⟨f-1,by omega⟩;rw [strL,h2,cond_true] at he;have hn2:=(Vla (sz:=sz) T).num hTi;have hn3:=(Ynd (l:=l) (fieldQ l sz T).2).num (Vla (sz:=sz) T hTi).1;have hOlt:=hO.lt;refine AU ?_;refine Xu (gtP n0) [3,0,3,1,1,2,3,2] [0,1,0,4,12,31,63,127] mix (by kernel_rfl) [0,1,2,3,4,5,6,7] O ?_;have g:=gtd g;replace E:=E.dr;have h:=h.grow (G.drew _);have hO:=hO.grow (G.drew _);refine Zx 0 O O (fun _=>Zn Zg (Zd O)) (Wh 1 O O (fun w1 hx=>Zw Zf (Zd O) (fun _=>(E.g0.gt hx O).at_ O)) (Zx 2 O O (fun _=>Zl (Zd O)) (Zu 3 O O ?_)));refine Zv (L':=[4,5,6,7]) [3,0,3,2,1,2,3,2] O O O ?_;refine CL (PkN.to (Vpd) [b2,b3] h Xke (E.ltm (by simp [selB])) g.size) ?_;rintro v43 w43 ⟨⟨p43,c43,rfl,q43,k43⟩,h,g43⟩;refine ⟨nw1,?_⟩;have g:=g.trans g43;replace E:=E.gt g43 rfl;have hO:=hO.gt g43 rfl;refine Yj (g43) ?_;refine Zu 4 O O ?_;refine Zv (L':=[5,6,7]) [3,0,3,2,1,2,3,2] O O O ?_;refine CN fun _ _ N44 _ g E=>?_;have k43:=k43.new N44;have h:=h.grow (N44.g);have hO:=hO.grow (N44.g);refine Yj (GT.of_g (N44.g)) ?_;refine Zu 5 O O ?_;refine Ye (L':=[6,7]) [3,0,3,2,1,2,3,2] O O O O ?_;have hOo:=hO;refine Xx O Zc Zt O (Zd O) hO (Zd O) O E.g0.row (Ql k43 q43 (by intro j hj;simp at hj ⊢;omega) (fun j hj=>.inr (hOlt j hj))) (by simp;omega) (by have:=g.size;omega) ⟨by have:=g.size;omega,by have q2:=E.g2.lt;have q3:=E.g1.lt;simp;omega⟩ ?_;intro a45 c45 w45 hO hg45;replace E:=E.sel [false,true,true];replace E:=E.keepX hg45 hOo.ne (by simp [selB]);have g:=Ww g hg45 (fun k hk=>hOo.ge k hk);have h:=h.keepO hg45 hOo;refine Yy ?_;refine Zx 6 O O (fun _=>Zn Zg (Zd O)) (Zu 7 O O ?_)
 refine Ye (L':=[]) [3,0,3,2,1,2,3,2] O O O O ?_;refine AS fun _ ga Ca g E=>?_;have h:=Uc h;have hO:=Ua hO;refine Yy ?_;refine TK [0,2,3] ?_;refine AU ?_;refine CL (Xzf h) ?_;rintro _ _ ⟨rfl,h,ga⟩;refine RC fun g E=>?_;have hO:=hO.gt ga rfl;refine AU ?_;refine Yx [3,3,3,0,3,3,3,0,3,3] [true,true,true,true,true,true,true,true,true,true] [0,1,3,7,0,16,48,112,240,511] mix (by kernel_rfl) ?_;have g:=gtd g;replace E:=E.dr;have h:=h.grow (G.drew _);have hO:=hO.grow (G.drew _);refine IF (fun h3=>?_) fun h3=>?_;have e3:endQ l (fieldQ l sz T).2=failQ (semiQ l (fieldQ l sz T).2):=by unfold endQ;rw [h3];rfl
 refine AU ?_;refine CL (Uda h) ?_;rintro _ _ ⟨rfl,h,ga⟩;refine RC fun g E=>?_;have hO:=hO.gt ga rfl;refine SK [0,2,3] ?_;refine Ze (fun a ha=>?_);rw [← e3] at h;exact ⟨(f',_,endQ l (fieldQ l sz T).2),ha,⟨⟨h,he,by omega,by simp;omega,_,E.g0,hO⟩,g⟩,(Zs (blkE E.g1) (Zz _)),by show f'<f'+1;omega⟩;have e3:endQ l (fieldQ l sz T).2=semiQ l (fieldQ l sz T).2:=by unfold endQ;rw [h3];rfl
 rw [← e3] at h;refine KC [0,2,3] ?_;refine Yb (fun a ha=>?_);exact ⟨(f',_,endQ l (fieldQ l sz T).2),ha,⟨⟨h,he,by omega,by simp;omega,_,E.g0,hO⟩,g⟩,(Zs (blkE E.g1) (Zz _)),by show f'<f'+1;omega⟩;replace h2:(!T.bad && !isQ l T [125])=false:=h2
 have he:(acc,T)=strL l sz (l.length+2) [] (takeQ l [123] (takeQ l [115,116,114,117,99,116] (nameQ l (adv S)).2)):=by
  rw [← he]
  cases f with
  | zero=>rfl
  | succ f'=>rw [strL,h2];rfl
 refine AU ?_;refine CL (Wj [125] (by decide) h) ?_;rintro _ _ ⟨rfl,h,ga⟩;refine RC fun g E=>?_;have hO:=hO.gt ga rfl;refine AS fun _ ga Ca g E=>?_;have h:=Uc h;have hO:=Ua hO;refine RTN ?_;have e:declQ l sz x S=(mkN 2 (nameQ l (adv S)).1 0 (offQ l sz S) acc,takeQ l [125] T):=by unfold declQ strQ;rw [e1];dsimp only [cond_true];rw [← he]
 rw [e];exact ⟨Zr (t:=mkN 2 (nameQ l (adv S)).1 0 (offQ l sz S) acc) rfl hO.kd,h,g⟩;have e1:isQ l S [116,121,112,101]=false:=h1;refine IF (fun h4=>?_) fun h4=>?_;have e4:isQ l S [118,97,114]=true:=h4;have hadv:=(Vt e4 (by decide)).2;have r4:=Qd e4 (by decide);have q4:=(Xv e4 (by decide)).trans (Zba (adv S));have n4:=q4.num hi;refine AS fun _ ga Ca g E=>?_;have h:=Uc h;refine AU ?_;refine Yq O Va (Zd O) (Zd O) O h.B O O ?_;intro wS8 hgS8 _ BS;replace E:=E.keepT hgS8 h.B rfl;have g:=Wu g hgS8 h.B rfl h.hb;have h:=h.adv hgS8 BS (by first|assumption|omega);refine AU ?_;refine CL (Qfa h) ?_;rintro _ _ ⟨rfl,h,ga⟩;refine RC fun g E=>?_;refine AS fun _ ga Ca g E=>?_;have h:=Uc h;refine AU ?_;refine CL (PkN.to (Xje) [b2,b3] h Xke (E.ltm (by simp [selB])) g.size) ?_;rintro _ _ ⟨⟨p77,c77,rfl,q77,k77⟩,h,ga⟩;refine RC fun g E=>?_;refine CN fun _ _ ga l79 g E=>?_;have k77:=Uj k77;have h:=Ui h;refine AS fun _ ga Ca g E=>?_;have h:=Uc h;have k77:=Ua k77;refine AS fun _ ga Ca g E=>?_;have h:=Uc h;have k77:=Ua k77;refine RTN ?_;have e:declQ l sz x S=(mkN 6 (nameQ l (adv S)).1 0 (offQ l sz S) [(typQ l sz (nameQ l (adv S)).2).1,nonN],(typQ l sz (nameQ l (adv S)).2).2):=by unfold declQ funQ;dsimp only;rw [e1,e4];rfl
 rw [e];exact ⟨Zr (t:=mkN 6 (nameQ l (adv S)).1 0 (offQ l sz S) [_,nonN]) rfl (Xm (ks:=[_,nonN]) ⟨l79,Xa E.g0⟩ E.g0.row (Xj (k77.kdN q77) (Yc (Wv _ _))) (Nat.le_refl _)),h,g⟩;have e4:isQ l S [118,97,114]=false:=h4;refine IF (fun h5=>?_) fun h5=>?_;have e5:isQ l S [102,117,110,99]=true:=h5;have hadv:=(Vt e5 (by decide)).2;have r5:=Qd e5 (by decide);have q5:=(Xv e5 (by decide)).trans (Zba (adv S));have n5:=q5.num hi;have p4:=q5.tle (Vnd (sz:=sz) _).le;have n4:=p4.num hi;refine AS fun _ ga Ca g E=>?_;have h:=Uc h;refine AU ?_;refine Yq O Va (Zd O) (Zd O) O h.B O O ?_;intro wS13 hgS13 _ BS;replace E:=E.keepT hgS13 h.B rfl;have g:=Wu g hgS13 h.B rfl h.hb;have h:=h.adv hgS13 BS (by first|assumption|omega);refine AU ?_;refine CL (Qfa h) ?_;rintro _ _ ⟨rfl,h,ga⟩;refine RC fun g E=>?_;refine AS fun _ ga Ca g E=>?_;have h:=Uc h;refine AU ?_;refine CL (PkN.to (Urf) [b2,b3] h Xke (E.ltm (by simp [selB])) g.size) ?_;rintro _ _ ⟨⟨p95,c95,rfl,q95,k95⟩,h,ga⟩;refine RC fun g E=>?_;refine AN fun b4 _ ga _ g E=>?_;have k95:=Uj k95;have h:=Ui h;refine AS fun _ ga Ca g E=>?_;have h:=Uc h;have k95:=Ua k95;refine AN fun b5 _ ga _ g E=>?_;have k95:=Uj k95;have h:=Ui h;refine AS fun _ ga Ca g E=>?_;have h:=Uc h;have k95:=Ua k95;refine AU ?_;refine CL (Una [123] h) ?_;rintro _ _ ⟨rfl,ga⟩;refine RC fun g E=>?_;have h:=Uk h;have k95:=Uk k95;refine IF (fun h6=>?_) fun h6=>?_;have e6:isQ l (paramsQ l sz (nameQ l (adv S)).2).2 [123]=false:=by simpa using h6
 have p5:=p4.tle (Vsb (sz:=sz) (paramsQ l sz (nameQ l (adv S)).2).2).le;have n6:=p5.num hi;refine AU ?_;refine CL (PkN.to (Xje) [b2,b3,b4,b5] h Xke (E.ltm (by simp [selB])) g.size) ?_;rintro _ _ ⟨⟨p101,c101,rfl,q101,k101⟩,h,ga⟩;refine RC fun g E=>?_;have k95:=k95.gtp ga;refine AS fun _ ga Ca g E=>?_;have h:=Uc h;have k95:=Ua k95;have k101:=Ua k101;refine AU ?_;refine Xu (gtP n0) [0,0,3,1,1,3,2] [0,0,0,4,15,31,63] mix (by kernel_rfl) [0,1,2,3,4,5,6] O ?_;have g:=gtd g;replace E:=E.dr;have h:=h.grow (G.drew _);have k95:=k95.grow (G.drew _);have k101:=k101.grow (G.drew _);refine Wh 0 O O (fun w1 hx=>Zy Zh (Zd O) O (fun _=>(E.g1.gt hx O).row)) (Wh 1 O O (fun w1 hx=>Zy Zh (Zd O) O (fun _=>(E.g0.gt hx O).row)) (Zx 2 O O (fun _=>Zl (Zd O)) (Zu 3 O O ?_)));refine Zv (L':=[4,5,6]) [0,0,3,2,1,3,2] O O O ?_;refine CL (PkN.to (K.blk) [b2,b3,b4,b5] h (by omega) (E.ltm (by simp [selB])) g.size) ?_;rintro v105 w105 ⟨⟨p105,c105,rfl,q105,k105⟩,h,g105⟩;refine ⟨nw1,?_⟩;have g:=g.trans g105;replace E:=E.gt g105 rfl;have k95:=k95.gtp g105;have k101:=k101.gtp g105;refine Yj (g105) ?_;refine Zu 4 O O ?_;refine Zv (L':=[5,6]) [0,0,3,2,1,3,2] O O O ?_;refine CN fun _ _ N106 l106 g E=>?_;have k95:=k95.new N106;have k101:=k101.new N106;have k105:=k105.new N106;have h:=h.grow (N106.g);refine Yj (GT.of_g (N106.g)) ?_;refine Zx 5 O O (fun _=>Zn Zg (Zd O)) (Zu 6 O O ?_);refine Ye (L':=[]) [0,0,3,2,1,3,2] O O O O ?_;refine AS fun _ ga Ca g E=>?_;have h:=Uc h;have k95:=Ua k95;have k101:=Ua k101;have k105:=Ua k105;refine Yy ?_;refine TK [2,3] ?_;refine AS fun _ ga Ca g E=>?_;have h:=Uc h;have k95:=Ua k95;have k101:=Ua k101;have k105:=Ua k105;refine RTN ?_
 have e:declQ l sz x S=(mkN 4 (nameQ l (adv S)).1 0 (offQ l sz S) [(paramsQ l sz (nameQ l (adv S)).2).1,(typQ l sz (paramsQ l sz (nameQ l (adv S)).2).2).1,(x.blk (typQ l sz (paramsQ l sz (nameQ l (adv S)).2).2).2).1],(x.blk (typQ l sz (paramsQ l sz (nameQ l (adv S)).2).2).2).2):=by unfold declQ funQ;dsimp only;rw [e1,e4,e5,e6];rfl
 rw [e];exact ⟨Zr (t:=mkN 4 (nameQ l (adv S)).1 0 (offQ l sz S) [_,_,_]) rfl (Xm (ks:=[_,_,_]) ⟨l106,Xa E.g0⟩ E.g0.row (Xj (k95.kdN q95) (Xj (k101.kdN q101) (Yc (k105.kdN q105)))) (Nat.le_refl _)),h,g⟩;have e6:isQ l (paramsQ l sz (nameQ l (adv S)).2).2 [123]=true:=by simpa using h6
 refine AU ?_;refine Xu (gtP n0) [0,0,3,1,1,3,2] [0,0,0,4,15,31,63] mix (by kernel_rfl) [0,1,2,3,4,5,6] O ?_;have g:=gtd g;replace E:=E.dr;have h:=h.grow (G.drew _);have k95:=k95.grow (G.drew _);refine Wh 0 O O (fun w1 hx=>Zy Zh (Zd O) O (fun _=>(E.g1.gt hx O).row)) (Wh 1 O O (fun w1 hx=>Zy Zh (Zd O) O (fun _=>(E.g0.gt hx O).row)) (Zx 2 O O (fun _=>Zl (Zd O)) (Zu 3 O O ?_)));refine Zv (L':=[4,5,6]) [0,0,3,2,1,3,2] O O O ?_;refine CL (PkN.to (K.blk) [b2,b3,b4,b5] h (by omega) (E.ltm (by simp [selB])) g.size) ?_;rintro v105 w105 ⟨⟨p105,c105,rfl,q105,k105⟩,h,g105⟩;refine ⟨nw1,?_⟩;have g:=g.trans g105;replace E:=E.gt g105 rfl;have k95:=k95.gtp g105;refine Yj (g105) ?_;refine Zu 4 O O ?_;refine Zv (L':=[5,6]) [0,0,3,2,1,3,2] O O O ?_;refine CN fun _ _ N106 l106 g E=>?_;have k95:=k95.new N106;have k105:=k105.new N106;have h:=h.grow (N106.g);refine Yj (GT.of_g (N106.g)) ?_;refine Zx 5 O O (fun _=>Zn Zg (Zd O)) (Zu 6 O O ?_);refine Ye (L':=[]) [0,0,3,2,1,3,2] O O O O ?_;refine AS fun _ ga Ca g E=>?_;have h:=Uc h;have k95:=Ua k95;have k105:=Ua k105;refine Yy ?_;refine TK [2,3] ?_;refine AS fun _ ga Ca g E=>?_;have h:=Uc h;have k95:=Ua k95;have k105:=Ua k105;refine RTN ?_;have e:declQ l sz x S=(mkN 4 (nameQ l (adv S)).1 0 (offQ l sz S) [(paramsQ l sz (nameQ l (adv S)).2).1,nonN,(x.blk (paramsQ l sz (nameQ l (adv S)).2).2).1],(x.blk (paramsQ l sz (nameQ l (adv S)).2).2).2):=by unfold declQ funQ;dsimp only;rw [e1,e4,e5,e6];rfl
 rw [e];exact ⟨Zr (t:=mkN 4 (nameQ l (adv S)).1 0 (offQ l sz S) [_,nonN,_]) rfl (Xm (ks:=[_,nonN,_]) ⟨l106,Xa E.g0⟩ E.g0.row (Xj (k95.kdN q95) (Xj (Wv _ _) (Yc (k105.kdN q105)))) (Nat.le_refl _)),h,g⟩;have e5:isQ l S [102,117,110,99]=false:=h5;refine AU ?_;refine CL (Uda h) ?_;rintro _ _ ⟨rfl,h,ga⟩;refine RC fun g E=>?_;refine AS fun _ ga Ca g E=>?_;have h:=Uc h;refine RTN ?_;have e:declQ l sz x S=(mkN 0 [] 0 (offQ l sz S) [],failQ S):=by unfold declQ funQ;dsimp only;rw [e1,e4,e5];rfl
 rw [e];exact ⟨Zr (t:=mkN 0 [] 0 (offQ l sz S) []) rfl (Wv _ _),h,g⟩
end
def opLenR(l:List UInt8):Nat:=bif decide (2≤l.length)&&inB opsL (l.take 2) then 2 else bif decide (1≤l.length)&&inB opsL (l.take 1) then 1 else 0
theorem Qme(l:List UInt8)(hl:l.length≤20000)(w:World):Ret PP Jxc #[Str l] w fun v w'=>v=Str (l.take (opLenR l))∧G w w':=by
 have g:=G.refl w;refine WK 46 [0] Vdc ?_;refine AU ?_;refine Wta (fun (n:Nat) u=>n≤2∧(∀ m,n<m→m≤2→(decide (m≤l.length)&&inB opsL (l.take m))=false)∧G w u) (fun n=>[(0,True,Str l),(3,True,.int .i64 n)]) (fun n=>n) 2 ⟨by omega,by intro m h1 h2;omega,g⟩ (Za O (Za O (Zo _))) ?_;rintro n u ⟨hn,hm,g⟩;refine IF (fun h1=>?_) fun h1=>?_;replace h1:1≤n:=by simp only [decide_eq_true_eq] at h1;omega
 refine IF (fun h2=>?_) fun h2=>?_
 have hk:(decide (n≤l.length)&&inB opsL (l.take n))=false:=by
  simp only [decide_eq_true_eq] at h2;rw [Wdh (by omega:¬ n≤l.length)];rfl
 refine Jl O (kq (Zk (Zp O (Zq O (fun _=>Ycd (r:=((n-1:Nat):Int)) (Zd O) Xg (fun hc=>(by rw [Ypd ⟨by omega,by omega⟩];omega))) (Yr O (Vf [(0,_,_),(3,_,_)] (Za O (Za O (Zo _))) (Ze (fun a ha=>?_))))))));refine ⟨n-1,ha,⟨by omega,?_,g⟩,by omega⟩;intro m h1 h2;by_cases e:m=n;rw [e];exact hk;exact hm m (by omega) h2;have hlen:n≤l.length:=by simp only [decide_eq_false_iff_not] at h2;omega
 refine AU ?_;refine' OR [0,3] (fun hb3=>?y3) (kq ?n3)
 case y3 =>
  refine AU ?_;refine' OR [0,3] (fun hb4=>?y4) knr
  case y4 =>
   refine AU ?_;refine' OR [0,3] (fun hb5=>?y5) knr
   case y5 =>
    refine AU ?_;refine' OR [0,3] (fun hb6=>?y6) knr
    case y6 =>
     refine AU ?_;refine' OR [0,3] (fun hb7=>?y7) knr
     case y7 =>
      refine AU ?_;refine' OR [0,3] (fun hb8=>?y8) knr
      case y8 =>
       refine AU ?_;refine' OR [0,3] (fun hb9=>?y9) knr
       case y9 =>
        refine AU ?_;refine' OR [0,3] (fun hb10=>?y10) knr
        case y10 =>
         refine AU ?_;refine' OR [0,3] (fun hb11=>?y11) knr
         case y11 =>
          refine AU ?_;refine' OR [0,3] (fun hb12=>?y12) knr
          case y12 =>
           refine AU ?_;refine' OR [0,3] (fun hb13=>?y13) knr
           case y13 =>
            refine AU ?_;refine' OR [0,3] (fun hb14=>?y14) knr
            case y14 =>
             refine AU ?_;refine' OR [0,3] (fun hb15=>?y15) knr
             case y15 =>
              refine AU ?_;refine' OR [0,3] (fun hb16=>?y16) knr
              case y16 =>
               refine AU ?_;refine' OR [0,3] (fun hb17=>?y17) knr
               case y17 =>
                refine AU ?_;refine' OR [0,3] (fun hb18=>?y18) knr
                case y18 =>
                 refine AU ?_;refine' OR [0,3] (fun hb19=>?y19) knr
                 case y19 =>
                  refine AU ?_;refine' OR [0,3] (fun hb20=>?y20) knr
                  case y20 =>
                   refine AU ?_;refine' OR [0,3] (fun hb21=>?y21) knr
                   case y21 =>
                    refine AU ?_;refine' OR [0,3] (fun hb22=>?y22) knr
                    case y22 =>
                     refine AU ?_;refine' OR [0,3] (fun hb23=>?y23) knr
                     case y23 =>
                      refine AU ?_;refine' OR [0,3] (fun hb24=>?y24) knr
                      case y24 =>
                       refine AU ?_;refine' OR [0,3] (fun hb25=>?y25) knr
                       case y25 =>
                        refine AU ?_;refine' OR [0,3] (fun hb26=>?y26) knr
                        case y26 =>
                         refine AU ?_;refine' OR [0,3] (fun hb27=>?y27) knr
                         case y27 =>
                          refine AU ?_;refine' OR [0,3] (fun hb28=>?y28) knr
                          case y28 =>
                           refine AU ?_;refine SK [15,0,3] ?_;exact Ze knr
 case n3 =>
  refine IF (fun h29=>?_) fun h29=>?_
  have hin:inB opsL (l.take n)=true:=by
   simp only [inB,opsL,List.any_cons,List.any_nil,Bool.or_false];exact h29
  have hk:(decide (n≤l.length)&&inB opsL (l.take n))=true:=by rw [Weh hlen,hin];rfl
  have hN:opLenR l=n:=by
   unfold opLenR;by_cases e:n=2;subst e;rw [hk];rfl;have e1:n=1:=by omega
   have e2:=hm 2 (by omega) (by omega);subst e1;rw [hk,e2];rfl
  refine RTN ?_;refine ⟨?_,g⟩;rw [hN];rfl
  have hk:(decide (n≤l.length)&&inB opsL (l.take n))=false:=by
   have hin:inB opsL (l.take n)=false:=by simp only [inB,opsL,List.any_cons,List.any_nil,Bool.or_false];exact h29
   rw [hin,Bool.and_false]
  refine Yb (kq (Zk (Zp O (Zq O (fun _=>Ycd (r:=((n-1:Nat):Int)) (Zd O) Xg (fun hc=>(by rw [Ypd ⟨by omega,by omega⟩];omega))) (Yr O (Vf [(0,_,_),(3,_,_)] (Za O (Za O (Zo _))) (Ze (fun a ha=>?_))))))));refine ⟨n-1,ha,⟨by omega,?_,g⟩,by omega⟩;intro m h1 h2;by_cases e:m=n;rw [e];exact hk;exact hm m (by omega) h2
 have hn0:n=0:=by simp only [decide_eq_false_iff_not] at h1;omega
 have e1:=hm 1 (by omega) (by omega);have e2:=hm 2 (by omega) (by omega);have hN:opLenR l=0:=by unfold opLenR;rw [e1,e2];rfl
 refine RTN ?_;refine ⟨?_,g⟩;rw [hN];rfl
theorem Jhg(t:Tok)(w:World):Ret PP Wle #[.agg (tokCells t).toArray] w fun v w'=>v = .bool (endsT t)∧G w w':=by
 have g:=G.refl w;refine WK 25 [0] Uld ?_;refine BM fun _ _ _ _ g E=>?_;refine AU ?_;refine' OR [1,2] (fun hb1=>?y1) (kq ?n1)
 case y1 =>
  refine AU ?_;refine SK [5,1,2] ?_;exact Ze knr
 case n1 =>
  refine IF (fun h2=>?_) fun h2=>?_;(try simp only [bsimp] at h2);refine RTN ?_;refine ⟨?_,g⟩;rw [endsT,h2];rfl;refine AU ?_;refine' OR [1,2,8,9,11] (fun hb3=>?y3) (kq ?n3)
  case y3 =>
   refine AU ?_;refine' OR [1,2,8,9,11] (fun hb4=>?y4) knr
   case y4 =>
    refine AU ?_;refine' OR [1,2,8,9,11] (fun hb5=>?y5) knr
    case y5 =>
     refine AU ?_;refine' OR [1,2,8,9,11] (fun hb6=>?y6) knr
     case y6 =>
      refine AU ?_;refine' OR [1,2,8,9,11] (fun hb7=>?y7) knr
      case y7 =>
       refine AU ?_;refine' OR [1,2,8,9,11] (fun hb8=>?y8) knr
       case y8 =>
        refine AU ?_;refine' OR [1,2,8,9,11] (fun hb9=>?y9) knr
        case y9 =>
         refine AU ?_;refine' OR [1,2,8,9,11] (fun hb10=>?y10) knr
         case y10 =>
          refine AU ?_;refine' OR [1,2,8,9,11] (fun hb11=>?y11) knr
          case y11 =>
           refine AU ?_;refine' OR [1,2,8,9,11] (fun hb12=>?y12) knr
           case y12 =>
            refine AU ?_;refine' OR [1,2,8,9,11] (fun hb13=>?y13) knr
            case y13 =>
             refine AU ?_;refine' OR [1,2,8,9,11] (fun hb14=>?y14) knr
             case y14 =>
              refine AU ?_;refine' OR [1,2,8,9,11] (fun hb15=>?y15) knr
              case y15 =>
               refine AU ?_;refine SK [10,1,2,8,9,11] ?_;exact Ze knr
  case n3 =>
   refine IF (fun h16=>?_) fun h16=>?_;(try simp only [bsimp] at h16);refine RTN ?_;refine ⟨?_,g⟩;rw [endsT,h2];simp only [inB,endw,List.any_cons,List.any_nil,Bool.or_false,Bool.false_or];rw [h16];refine RTN ?_;refine ⟨?_,g⟩;rw [endsT,h2];simp only [inB,endw,List.any_cons,List.any_nil,Bool.or_false,Bool.false_or];rw [h16]
theorem Vqd{q:Int→Bool}{s:List UInt8}{p n:Nat}(h:(decide (((p+n:Nat):Int)<s.length)&&q (cAt s (p+n)))=true)(he:runN q (s.drop p)=n+runN q (s.drop (p+n))):p+(n+1)≤s.length∧runN q (s.drop p)=(n+1)+runN q (s.drop (p+(n+1))):=by
 simp only [Bool.and_eq_true,decide_eq_true_eq] at h;have h1:p+n<s.length:=by omega
 have:=Qic (q:=q) h1 h.2;exact ⟨by omega,by rw [he,this,Nat.add_assoc p n 1];omega⟩
theorem Vrd{q:Int→Bool}{s:List UInt8}{p n:Nat}(h:(decide (((p+n:Nat):Int)<s.length)&&q (cAt s (p+n)))=false)(he:runN q (s.drop p)=n+runN q (s.drop (p+n))):n=runN q (s.drop p):=by
 have:runN q (s.drop (p+n))=0:=Qkd fun hk=>by
  rw [Weh (by omega:((p+n:Nat):Int)<s.length),Bool.true_and] at h;exact h
 omega
def nextR(s:List UInt8)(p:Nat):Tok×Int :=
 bif letterB (cAt s p) then (⟨wordK ((s.drop p).take (runN isAlnum (s.drop p))),(s.drop p).take (runN isAlnum (s.drop p)),p⟩,bif decide ((32:Int)<runN isAlnum (s.drop p)) then 3 else 0)
 else bif digitB (cAt s p) then bif (!intOk ((s.drop p).take (runN digitB (s.drop p)))) || (decide ((p:Int)+runN digitB (s.drop p)<s.length)&&letterB (cAt s (p+runN digitB (s.drop p)))) then (⟨0,[],0⟩,4)
  else (⟨2,(s.drop p).take (runN digitB (s.drop p)),p⟩,0)
 else bif (decide (cAt s p=47)&&decide ((p:Int)+1<s.length))&&decide (cAt s (p+1)=47) then (⟨5,(s.drop p).take (runN isNotLf (s.drop p)),p⟩,0)
 else bif decide ((s.drop p).take (opLenR (s.drop p))=[]) then (⟨0,[],0⟩,4)
 else (⟨4,(s.drop p).take (opLenR (s.drop p)),p⟩,0)
theorem Wlg(s:List UInt8)(p:Nat)(hp:p<s.length)(k4:s.length≤20000)(w:World):Ret PP Wne #[Str s,.int .i64 p] w fun v w'=>v = .tuple #[.agg (tokCells (nextR s p).1).toArray,.int .i64 (nextR s p).2]∧G w w':=by
 have g:=G.refl w;refine Zca (m:=144) Umd O O [(0,True,_),(1,True,_)] (Za O (Za O (Zo _))) ?_;refine Ws fun K1 hK1=>?_;refine Wf [1,3] ?_;refine Jm O Wa O ?_;intro b4 w4 N4;have l4:=N4.ge g;have g:=g.trans N4.g;have B4:=N4.blk;refine Zq O (fun _=>Yu Xg) ?_;refine Ze (hK1 _ _ ?_);refine Ws fun K2 hK2=>?_;refine Wf [3,3] ?_;refine Zq O (fun _=>Zl (Zd O)) ?_;refine Zq O (fun _=>Yu (Zd O)) ?_;refine Vf [(0,_,_),(1,_,_),(4,_,_),(5,_,_),(6,_,_)] (Za O (Za O (Za O (Za O (Za O (Zo _)))))) ?_;refine Ze (hK2 _ _ ?_);refine Ws fun K3 hK3=>?_;refine Yo ?_;refine Ws fun K4 hK4=>?_;refine Wf [3,3,3,1,3] ?_;refine Zq O (fun _=>Zl (Zd O)) ?_;refine Zq O (fun _=>Zl (Zd O)) ?_;refine Zq O (fun _=>Jq Yv (Zd O) (Zd O) (fun _=>by omega)) ?_;refine Vg O (Yi Wja Vc (Ym (Zd O) (Xh)) O) (Wkc _ _) (fun w16 g16=>?_);have g:=g.trans g16;replace B4:=B4.grow (g16);refine Zq O (fun _=>Yu (Zd O)) ?_;refine Vf [(0,_,_),(1,_,_),(4,_,_),(5,_,_),(6,_,_),(12,_,_)] (Za O (Za O (Za O (Za O (Za O (Za O (Zo _))))))) ?_;refine Ze (hK4 _ _ ?_);refine Yva (Zd O) (fun h1=>?_) (fun h1=>?_);skip;replace h1:letterB (cAt s p)=true:=h1;refine Ws fun K5 hK5=>?_;refine Yo ?_;refine Wta (fun (n:Nat) u=>p+n≤s.length∧runN isAlnum (s.drop p)=n+runN isAlnum (s.drop (p+n))∧G w u∧Blk u b4 Vy [.int .i64 0,.string ⟨#[]⟩,.int .i64 0]) (fun n=>[(0,True,Str s),(1,True,.int .i64 p),(4,True,.pointer (some ⟨b4,0,none⟩)),(6,True,.int .i64 (p+n:Nat))]) (fun n=>s.length-n) 0 ⟨by omega,by simp,g,B4⟩ (Za O (Za O (Za O (Za O (Zo _))))) ?_;rintro n u ⟨hn,he,g,B4⟩;refine Ws fun K6 hK6=>?_;refine Ws fun K7 hK7=>?_;refine Wf [3,3,3,3,3,3,3,3,1,3,3,3,3,1,3,3] ?_
 refine Zq O (fun _=>Zl (Zd O)) ?_;refine Zq O (fun _=>Zl (Zd O)) ?_;refine Zq O (fun _=>Yfa Yv (Zd O)) ?_;refine Zq O (fun _=>Qwc (Zd O) (Zd O)) ?_;refine Zq O (fun _=>Zl (Zd O)) ?_;refine Zj O O O (fun _=>Zl (Zd O)) ?_;refine Zj O O O (fun _=>Zl (Zd O)) ?_;refine Zj O O O (fun _=>Jq Yv (Zm O id) (Zm O id) (fun hc=>by have:=of_decide_eq_true hc.2;omega)) ?_;refine Xt O O O (fun _=>(Yi Wja Vc (Ym (Zm O id) (Xh)) O)) (fun hc=>Wkc _ _) (fun w25 g25=>?_);have g:=g.trans g25;replace B4:=B4.grow (g25);refine Zj O O O (fun _=>Zl (Zm O id)) ?_;refine Zj O O O (fun _=>Zl (Zd O)) ?_;refine Zj O O O (fun _=>Zl (Zd O)) ?_;refine Zj O O O (fun _=>Jq Yv (Zm O id) (Zm O id) (fun hc=>by have:=of_decide_eq_true hc.1.2;omega)) ?_;refine Xt O O O (fun _=>(Yi Jba Vc (Ym (Zm O id) (Xh)) O)) (fun hc=>Wfb _ _) (fun w30 g30=>?_);have g:=g.trans g30;replace B4:=B4.grow (g30);refine Zj O O O (fun _=>Vd (Zm O id) (Zm O id)) ?_;refine Zq O (fun _=>Yd (Zd O) (Zm O id)) ?_;refine Vf [(0,_,_),(1,_,_),(4,_,_),(6,_,_),(32,_,_)] (Za O (Za O (Za O (Za O (Za O (Zo _)))))) ?_;refine Ze (hK7 _ _ ?_);refine Yva (Zd O) (fun h2=>?_) (fun h2=>?_);skip;have hm:=Vqd (q:=isAlnum) h2 he;refine Yb (hK6 _ _ ?_);refine Zua [(0,_,_),(1,_,_),(4,_,_),(6,_,_)] (Za O (Za O (Za O (Za O (Zo _))))) ?_;refine Yo ?_;refine Wf [3,3,3] ?_;refine Zq O (fun _=>Zl (Zd O)) ?_;refine Jta O O (by omega) ?_;refine Zq O (fun _=>Yu (Zd O)) ?_;refine Vf [(0,_,_),(1,_,_),(4,_,_),(6,_,_)] (Za O (Za O (Za O (Za O (Zo _))))) ?_;refine Ze (fun a ha=>?_);exact ⟨n+1,ha,⟨hm.1,hm.2,g,B4⟩,by omega⟩;skip;obtain rfl:=Vrd (q:=isAlnum) h2 he
 have e:(((p+runN isAlnum (s.drop p):Nat):Int)).toNat-(p:Int).toNat=runN isAlnum (s.drop p):=by omega
 have hlen:((s.drop p).take (runN isAlnum (s.drop p))).length=runN isAlnum (s.drop p):=by rw [List.length_take,List.length_drop];omega
 refine Jl O (hK5 _ _ ?_);refine Zua [(0,_,_),(1,_,_),(4,_,_),(6,_,_)] (Za O (Za O (Za O (Za O (Zo _))))) ?_;refine Ws fun K8 hK8=>?_;refine Wf [3,3,3,3,3,3,1,2] ?_;refine Zq O (fun _=>Zl (Zd O)) ?_;refine Zq O (fun _=>Zl (Zd O)) ?_;refine Zq O (fun _=>Zl (Zd O)) ?_;refine Zq O (fun _=>Whb Yv (Zd O) (Zd O) (Zd O) (fun _=>by omega)) ?_;rw [e];refine Zq O (fun _=>Zl (Zd O)) ?_;refine Jv Wa Jb (pqc O (pqc O (pqc O pq0))) O O ?_;refine Jm O Wa O ?_;intro b7 w7 N7;have x7_4:=N7.ne B4;have l7:=N7.ge g;have g:=g.trans N7.g;replace B4:=B4.grow (N7.g);have B7:=N7.blk;refine Vh O Qk (Zd O) (Zd O) O O B7 O O ?_;intro wS1 hgS1 hzS1;clear B7;intro B7;replace B4:=B4.keep hgS1 (by intro h;injection h with h;first|exact x7_4 h.symm|exact x4_7 h|omega);have g:=Ya g hgS1 (by omega);refine Ze (hK8 _ _ ?_);refine Zua [(0,_,_),(1,_,_),(4,_,_),(6,_,_),(7,_,_),(35,_,_),(36,_,_),(37,_,_),(38,_,_),(39,_,_),(40,_,_)] (Za O (Za O (Za O (Za O (Za O (Za O (Za O (Za O (Za O (Za O (Za O (Zo _)))))))))))) ?_;refine Ws fun K9 hK9=>?_;refine Ws fun K10 hK10=>?_;refine Wf [3,0,1] ?_;refine Zq O (fun _=>Zn Ja (Zd O)) ?_;refine Wia O (Zw Yg (Zd O) (fun _=>B7.at_ O)) ?_;refine Vg O (Yi Xod Vc (Ym (Zd O) (Xh)) O) (Jcc _ _) (fun w43 g43=>?_);have g:=g.trans g43;replace B4:=B4.grow (g43);replace B7:=B7.grow (g43);refine Ze (hK10 _ _ ?_);refine Yva (Zd O) (fun h3=>?_) (fun h3=>?_);skip;replace h3:inB kws ((s.drop p).take (runN isAlnum (s.drop p)))=true:=h3;refine Wf [3,2] ?_;refine Zq O (fun _=>Zn Zfb (Zd O)) ?_;refine Yq O Va (Zd O) Xg O B7 O O ?_;intro wS2 hgS2 hzS2;clear B7;intro B7;replace B4:=B4.keep hgS2 (by intro h;injection h with h;first|exact x7_4 h.symm|exact x4_7 h|omega)
 have g:=Ya g hgS2 (by omega);refine Ze (hK9 _ _ ?_);refine Ws fun K11 hK11=>?_;refine Ws fun K12 hK12=>?_;refine Wf [3,0,3,3] ?_;refine Zq O (fun _=>Zn Ja (Zd O)) ?_;refine Wia O (Zw Yg (Zd O) (fun _=>B7.at_ O)) ?_;refine Zq O (fun _=>Yfa Yv (Zd O)) ?_;refine Zq O (fun _=>Qcd (Zd O) Xg) ?_;refine Ze (hK12 _ _ ?_);refine Yva (Zd O) (fun h4=>?_) (fun h4=>?_);skip;replace h4:decide ((32:Int)<(((s.drop p).take (runN isAlnum (s.drop p))).length:Nat))=true:=h4;rw [hlen] at h4;have hN:nextR s p=(⟨3,(s.drop p).take (runN isAlnum (s.drop p)),p⟩,3):=by unfold nextR;rw [h1,wordK,h3,h4];rfl
 refine Ws fun K13 hK13=>?_;refine Wf [0,2,3] ?_;refine Wia O (Zy Wq (Zd O) O (fun _=>B7.row)) ?_;refine Vh O Qk (Zd O) (Zd O) O O B4 O O ?_;intro wS3 hgS3 hzS3;clear B4;intro B4;replace B7:=B7.keep hgS3 (by intro h;injection h with h;first|exact x4_7 h.symm|exact x7_4 h|omega);have g:=Ya g hgS3 (by omega);refine Zq O (fun _=>Yu Xg) ?_;refine Ze (hK13 _ _ ?_);refine Zua [(0,_,_),(1,_,_),(4,_,_),(5,_,_),(6,_,_),(7,_,_),(35,_,_),(36,_,_),(37,_,_),(38,_,_),(39,_,_),(40,_,_),(41,_,_),(42,_,_),(43,_,_),(44,_,_),(45,_,_),(46,_,_),(47,_,_),(48,_,_),(49,_,_)] (Za O (Za O (Za O (Za O (Za O (Za O (Za O (Za O (Za O (Za O (Za O (Za O (Za O (Za O (Za O (Za O (Za O (Za O (Za O (Za O (Za O (Zo _)))))))))))))))))))))) ?_;refine Xe (Ut (rs:=[.cell 4 85,.tmp 5]) (vs:=[_,_]) O O (Qy O Wq O (by first|exact B4.row|exact B7.row) (Qm O (Wy))) O ?_);rw [hN];exact ⟨rfl,g⟩;skip;replace h4:decide ((32:Int)<(((s.drop p).take (runN isAlnum (s.drop p))).length:Nat))=false:=h4;rw [hlen] at h4;have hN:nextR s p=(⟨3,(s.drop p).take (runN isAlnum (s.drop p)),p⟩,0):=by unfold nextR;rw [h1,wordK,h3,h4];rfl
 refine Yb (hK11 _ _ ?_);refine Ws fun K14 hK14=>?_;refine Wf [0,2,3] ?_;refine Wia O (Zy Wq (Zd O) O (fun _=>B7.row)) ?_;refine Vh O Qk (Zd O) (Zd O) O O B4 O O ?_;intro wS4 hgS4 hzS4;clear B4;intro B4;replace B7:=B7.keep hgS4 (by intro h;injection h with h;first|exact x4_7 h.symm|exact x7_4 h|omega);have g:=Ya g hgS4 (by omega);refine Zq O (fun _=>Yu Xg) ?_;refine Ze (hK14 _ _ ?_);refine Zua [(0,_,_),(1,_,_),(4,_,_),(5,_,_),(6,_,_),(7,_,_),(35,_,_),(36,_,_),(37,_,_),(38,_,_),(39,_,_),(40,_,_),(41,_,_),(42,_,_),(43,_,_),(44,_,_),(45,_,_),(46,_,_),(47,_,_),(48,_,_),(50,_,_)] (Za O (Za O (Za O (Za O (Za O (Za O (Za O (Za O (Za O (Za O (Za O (Za O (Za O (Za O (Za O (Za O (Za O (Za O (Za O (Za O (Za O (Zo _)))))))))))))))))))))) ?_;refine Xe (Ut (rs:=[.cell 4 85,.tmp 5]) (vs:=[_,_]) O O (Qy O Wq O (by first|exact B4.row|exact B7.row) (Qm O (Wy))) O ?_);rw [hN];exact ⟨rfl,g⟩;skip;replace h3:inB kws ((s.drop p).take (runN isAlnum (s.drop p)))=false:=h3;refine Yb (hK9 _ _ ?_);refine Ws fun K15 hK15=>?_;refine Ws fun K16 hK16=>?_;refine Wf [3,0,3,3] ?_;refine Zq O (fun _=>Zn Ja (Zd O)) ?_;refine Wia O (Zw Yg (Zd O) (fun _=>B7.at_ O)) ?_;refine Zq O (fun _=>Yfa Yv (Zd O)) ?_;refine Zq O (fun _=>Qcd (Zd O) Xg) ?_;refine Ze (hK16 _ _ ?_);refine Yva (Zd O) (fun h5=>?_) (fun h5=>?_);skip;replace h5:decide ((32:Int)<(((s.drop p).take (runN isAlnum (s.drop p))).length:Nat))=true:=h5;rw [hlen] at h5;have hN:nextR s p=(⟨1,(s.drop p).take (runN isAlnum (s.drop p)),p⟩,3):=by unfold nextR;rw [h1,wordK,h3,h5];rfl
 refine Ws fun K17 hK17=>?_;refine Wf [0,2,3] ?_;refine Wia O (Zy Wq (Zd O) O (fun _=>B7.row)) ?_;refine Vh O Qk (Zd O) (Zd O) O O B4 O O ?_;intro wS5 hgS5 hzS5;clear B4;intro B4;replace B7:=B7.keep hgS5 (by intro h;injection h with h;first|exact x4_7 h.symm|exact x7_4 h|omega);have g:=Ya g hgS5 (by omega);refine Zq O (fun _=>Yu Xg) ?_;refine Ze (hK17 _ _ ?_);refine Zua [(0,_,_),(1,_,_),(4,_,_),(5,_,_),(6,_,_),(7,_,_),(35,_,_),(36,_,_),(37,_,_),(38,_,_),(39,_,_),(40,_,_),(41,_,_),(42,_,_),(43,_,_),(45,_,_),(46,_,_),(47,_,_),(48,_,_),(49,_,_)] (Za O (Za O (Za O (Za O (Za O (Za O (Za O (Za O (Za O (Za O (Za O (Za O (Za O (Za O (Za O (Za O (Za O (Za O (Za O (Za O (Zo _))))))))))))))))))))) ?_;refine Xe (Ut (rs:=[.cell 4 85,.tmp 5]) (vs:=[_,_]) O O (Qy O Wq O (by first|exact B4.row|exact B7.row) (Qm O (Wy))) O ?_);rw [hN];exact ⟨rfl,g⟩;skip;replace h5:decide ((32:Int)<(((s.drop p).take (runN isAlnum (s.drop p))).length:Nat))=false:=h5;rw [hlen] at h5;have hN:nextR s p=(⟨1,(s.drop p).take (runN isAlnum (s.drop p)),p⟩,0):=by unfold nextR;rw [h1,wordK,h3,h5];rfl
 refine Yb (hK15 _ _ ?_);refine Ws fun K18 hK18=>?_;refine Wf [0,2,3] ?_;refine Wia O (Zy Wq (Zd O) O (fun _=>B7.row)) ?_;refine Vh O Qk (Zd O) (Zd O) O O B4 O O ?_;intro wS6 hgS6 hzS6;clear B4;intro B4;replace B7:=B7.keep hgS6 (by intro h;injection h with h;first|exact x4_7 h.symm|exact x7_4 h|omega);have g:=Ya g hgS6 (by omega);refine Zq O (fun _=>Yu Xg) ?_;refine Ze (hK18 _ _ ?_);refine Zua [(0,_,_),(1,_,_),(4,_,_),(5,_,_),(6,_,_),(7,_,_),(35,_,_),(36,_,_),(37,_,_),(38,_,_),(39,_,_),(40,_,_),(41,_,_),(42,_,_),(43,_,_),(45,_,_),(46,_,_),(47,_,_),(48,_,_),(50,_,_)] (Za O (Za O (Za O (Za O (Za O (Za O (Za O (Za O (Za O (Za O (Za O (Za O (Za O (Za O (Za O (Za O (Za O (Za O (Za O (Za O (Zo _))))))))))))))))))))) ?_;refine Xe (Ut (rs:=[.cell 4 85,.tmp 5]) (vs:=[_,_]) O O (Qy O Wq O (by first|exact B4.row|exact B7.row) (Qm O (Wy))) O ?_);rw [hN];exact ⟨rfl,g⟩;skip;replace h1:letterB (cAt s p)=false:=h1;refine Ws fun K19 hK19=>?_;refine Wf [3,3,3,1,3] ?_;refine Zq O (fun _=>Zl (Zd O)) ?_;refine Zq O (fun _=>Zl (Zd O)) ?_;refine Zq O (fun _=>Jq Yv (Zd O) (Zd O) (fun _=>by omega)) ?_;refine Vg O (Yi Jba Vc (Ym (Zd O) (Xh)) O) (Wfb _ _) (fun w55 g55=>?_);have g:=g.trans g55;replace B4:=B4.grow (g55);refine Zq O (fun _=>Yu (Zd O)) ?_;refine Vf [(0,_,_),(1,_,_),(4,_,_),(5,_,_),(6,_,_),(51,_,_)] (Za O (Za O (Za O (Za O (Za O (Za O (Zo _))))))) ?_;refine Ze (hK19 _ _ ?_);refine Yva (Zd O) (fun h6=>?_) (fun h6=>?_);skip;replace h6:digitB (cAt s p)=true:=h6;have hpos:=Vxa (q:=digitB) hp h6;refine Ws fun K20 hK20=>?_;refine Yo ?_
 refine Wta (fun (n:Nat) u=>p+n≤s.length∧runN digitB (s.drop p)=n+runN digitB (s.drop (p+n))∧G w u∧Blk u b4 Vy [.int .i64 0,.string ⟨#[]⟩,.int .i64 0]) (fun n=>[(0,True,Str s),(1,True,.int .i64 p),(4,True,.pointer (some ⟨b4,0,none⟩)),(6,True,.int .i64 (p+n:Nat))]) (fun n=>s.length-n) 0 ⟨by omega,by simp,g,B4⟩ (Za O (Za O (Za O (Za O (Zo _))))) ?_;rintro n u ⟨hn,he,g,B4⟩;refine Ws fun K21 hK21=>?_;refine Ws fun K22 hK22=>?_;refine Wf [3,3,3,3,3,3,3,3,1,3] ?_;refine Zq O (fun _=>Zl (Zd O)) ?_;refine Zq O (fun _=>Zl (Zd O)) ?_;refine Zq O (fun _=>Yfa Yv (Zd O)) ?_;refine Zq O (fun _=>Qwc (Zd O) (Zd O)) ?_;refine Zq O (fun _=>Zl (Zd O)) ?_;refine Zj O O O (fun _=>Zl (Zd O)) ?_;refine Zj O O O (fun _=>Zl (Zd O)) ?_;refine Zj O O O (fun _=>Jq Yv (Zm O id) (Zm O id) (fun hc=>by have:=of_decide_eq_true hc.2;omega)) ?_;refine Xt O O O (fun _=>(Yi Jba Vc (Ym (Zm O id) (Xh)) O)) (fun hc=>Wfb _ _) (fun w64 g64=>?_);have g:=g.trans g64;replace B4:=B4.grow (g64);refine Zq O (fun _=>Yd (Zd O) (Zm O id)) ?_;refine Vf [(0,_,_),(1,_,_),(4,_,_),(6,_,_),(65,_,_)] (Za O (Za O (Za O (Za O (Za O (Zo _)))))) ?_;refine Ze (hK22 _ _ ?_);refine Yva (Zd O) (fun h7=>?_) (fun h7=>?_);skip;have hm:=Vqd (q:=digitB) h7 he;refine Yb (hK21 _ _ ?_);refine Zua [(0,_,_),(1,_,_),(4,_,_),(6,_,_)] (Za O (Za O (Za O (Za O (Zo _))))) ?_;refine Yo ?_;refine Wf [3,3,3] ?_;refine Zq O (fun _=>Zl (Zd O)) ?_;refine Jta O O (by omega) ?_;refine Zq O (fun _=>Yu (Zd O)) ?_;refine Vf [(0,_,_),(1,_,_),(4,_,_),(6,_,_)] (Za O (Za O (Za O (Za O (Zo _))))) ?_;refine Ze (fun a ha=>?_);exact ⟨n+1,ha,⟨hm.1,hm.2,g,B4⟩,by omega⟩;skip;obtain rfl:=Vrd (q:=digitB) h7 he
 have e:(((p+runN digitB (s.drop p):Nat):Int)).toNat-(p:Int).toNat=runN digitB (s.drop p):=by omega
 have hlen:((s.drop p).take (runN digitB (s.drop p))).length=runN digitB (s.drop p):=by rw [List.length_take,List.length_drop];omega
 refine Jl O (hK20 _ _ ?_);refine Zua [(0,_,_),(1,_,_),(4,_,_),(6,_,_)] (Za O (Za O (Za O (Za O (Zo _))))) ?_;refine Ws fun K23 hK23=>?_;refine Wf [3,3,3,3,1,3,3,3,3,3] ?_;refine Zq O (fun _=>Zl (Zd O)) ?_;refine Zq O (fun _=>Zl (Zd O)) ?_;refine Zq O (fun _=>Zl (Zd O)) ?_;refine Zq O (fun _=>Whb Yv (Zd O) (Zd O) (Zd O) (fun _=>by omega)) ?_;rw [e];refine Yga O (Yi Qub Vc (Ym (Zd O) (Xh)) O) (Yef _ (Jlb s p) (by intro h0;have h0:=congrArg List.length h0;replace h0:((s.drop p).take (runN digitB (s.drop p))).length=0:=h0;rw [hlen] at h0;omega) (by show ((s.drop p).take (runN digitB (s.drop p))).length≤20000;rw [hlen];omega) _) ?_;rintro v73 w73 ⟨⟨x,rfl⟩,g73⟩;refine ⟨fun _=>g73,?_⟩;have g:=g.trans g73;replace B4:=B4.grow (g73);refine Zq O (fun _=>Zl (Zd O)) ?_;refine Zq O (fun _=>Xs (Zd O) O) ?_;refine Zq O (fun _=>Xs (Zd O) O) ?_;refine Zq O (fun _=>Yu (Zd O)) ?_;refine Zq O (fun _=>Yu (Zd O)) ?_;refine Vf [(0,_,_),(1,_,_),(4,_,_),(6,_,_),(9,_,_),(68,_,_),(69,_,_),(70,_,_),(71,_,_),(72,_,_),(73,_,_),(74,_,_),(75,_,_)] (Za O (Za O (Za O (Za O (Za O (Za O (Za O (Za O (Za O (Za O (Za O (Za O (Za O (Zo _)))))))))))))) ?_;refine Ze (hK23 _ _ ?_);refine Ws fun K24 hK24=>?_;refine Ws fun K25 hK25=>?_;refine Wf [3,3,3,3,3,3,3,3,3,3,3,1,3,3] ?_;refine Zq O (fun _=>Zl (Zd O)) ?_;refine Zq O (fun _=>Xmc (Zd O)) ?_;refine Zq O (fun _=>Zl (Zd O)) ?_;refine Zj O O O (fun _=>Zl (Zd O)) ?_;refine Zj O O O (fun _=>Zl (Zd O)) ?_;refine Zj O O O (fun _=>Yfa Yv (Zm O id)) ?_;refine Zj O O O (fun _=>Qwc (Zm O id) (Zm O id)) ?_;refine Zj O O O (fun _=>Zl (Zm O id)) ?_;refine Zj O O O (fun _=>Zl (Zd O)) ?_;refine Zj O O O (fun _=>Zl (Zd O)) ?_
 refine Zj O O O (fun _=>Jq Yv (Zm O id) (Zm O id) (fun hc=>by have:=of_decide_eq_true hc.2;omega)) ?_;refine Xt O O O (fun _=>(Yi Wja Vc (Ym (Zm O id) (Xh)) O)) (fun hc=>Wkc _ _) (fun w87 g87=>?_);have g:=g.trans g87;replace B4:=B4.grow (g87);refine Zj O O O (fun _=>Yd (Zm O id) (Zm O id)) ?_;refine Zq O (fun _=>Vd (Zd O) (Zm O id)) ?_;refine Ze (hK25 _ _ ?_);refine Yva (Zd O) (fun h8=>?_) (fun h8=>?_);skip;replace h8:((!intOk ((s.drop p).take (runN digitB (s.drop p)))) || (decide ((p:Int)+runN digitB (s.drop p)<s.length)&&letterB (cAt s (p+runN digitB (s.drop p)))))=true:=h8;have hN:nextR s p=(⟨0,[],0⟩,4):=by unfold nextR;rw [h1,h6,h8];rfl
 refine Ws fun K26 hK26=>?_;refine Wf [3,2,3] ?_;refine Jv Wa Jb pq0 O O ?_;refine Vh O Qk (Zd O) (Zd O) O O B4 O O ?_;intro wS7 hgS7 hzS7;clear B4;intro B4;have g:=Ya g hgS7 (by omega);refine Zq O (fun _=>Yu Xg) ?_;refine Ze (hK26 _ _ ?_);refine Zua [(0,_,_),(1,_,_),(4,_,_),(5,_,_),(6,_,_),(9,_,_),(68,_,_),(69,_,_),(70,_,_),(71,_,_),(72,_,_),(73,_,_),(74,_,_),(75,_,_),(76,_,_),(77,_,_),(78,_,_),(79,_,_),(80,_,_),(81,_,_),(82,_,_),(83,_,_),(84,_,_),(85,_,_),(86,_,_),(87,_,_),(88,_,_),(89,_,_),(90,_,_)] (Za O (Za O (Za O (Za O (Za O (Za O (Za O (Za O (Za O (Za O (Za O (Za O (Za O (Za O (Za O (Za O (Za O (Za O (Za O (Za O (Za O (Za O (Za O (Za O (Za O (Za O (Za O (Za O (Za O (Zo _)))))))))))))))))))))))))))))) ?_;refine Xe (Ut (rs:=[.cell 4 85,.tmp 5]) (vs:=[_,_]) O O (Qy O Wq O (by first|exact B4.row) (Qm O (Wy))) O ?_);rw [hN];exact ⟨rfl,g⟩;skip;replace h8:((!intOk ((s.drop p).take (runN digitB (s.drop p)))) || (decide ((p:Int)+runN digitB (s.drop p)<s.length)&&letterB (cAt s (p+runN digitB (s.drop p)))))=false:=h8;have hN:nextR s p=(⟨2,(s.drop p).take (runN digitB (s.drop p)),p⟩,0):=by unfold nextR;rw [h1,h6,h8];rfl
 refine Yb (hK24 _ _ ?_);refine Ws fun K27 hK27=>?_;refine Wf [3,3,3,3,3,3,2,3] ?_;refine Zq O (fun _=>Zl (Zd O)) ?_;refine Zq O (fun _=>Zl (Zd O)) ?_;refine Zq O (fun _=>Zl (Zd O)) ?_;refine Zq O (fun _=>Whb Yv (Zd O) (Zd O) (Zd O) (fun _=>by omega)) ?_;rw [e];refine Zq O (fun _=>Zl (Zd O)) ?_;refine Jv Wa Jb (pqc O (pqc O (pqc O pq0))) O O ?_;refine Vh O Qk (Zd O) (Zd O) O O B4 O O ?_;intro wS8 hgS8 hzS8;clear B4;intro B4;have g:=Ya g hgS8 (by omega);refine Zq O (fun _=>Yu Xg) ?_;refine Ze (hK27 _ _ ?_);refine Zua [(0,_,_),(1,_,_),(4,_,_),(5,_,_),(6,_,_),(9,_,_),(68,_,_),(69,_,_),(70,_,_),(71,_,_),(72,_,_),(73,_,_),(74,_,_),(75,_,_),(76,_,_),(77,_,_),(78,_,_),(79,_,_),(80,_,_),(81,_,_),(82,_,_),(83,_,_),(84,_,_),(85,_,_),(86,_,_),(87,_,_),(88,_,_),(89,_,_),(91,_,_),(92,_,_),(93,_,_),(94,_,_),(95,_,_),(96,_,_)] (Za O (Za O (Za O (Za O (Za O (Za O (Za O (Za O (Za O (Za O (Za O (Za O (Za O (Za O (Za O (Za O (Za O (Za O (Za O (Za O (Za O (Za O (Za O (Za O (Za O (Za O (Za O (Za O (Za O (Za O (Za O (Za O (Za O (Za O (Zo _))))))))))))))))))))))))))))))))))) ?_;refine Xe (Ut (rs:=[.cell 4 85,.tmp 5]) (vs:=[_,_]) O O (Qy O Wq O (by first|exact B4.row) (Qm O (Wy))) O ?_);rw [hN];exact ⟨rfl,g⟩;skip;replace h6:digitB (cAt s p)=false:=h6;refine Ws fun K28 hK28=>?_;refine Wf [3,3,3,3,3,3,3,3,3,3,3,3,3,3,3,3,3,3,3] ?_;refine Zq O (fun _=>Zl (Zd O)) ?_;refine Zq O (fun _=>Zl (Zd O)) ?_;refine Zq O (fun _=>Jq Yv (Zd O) (Zd O) (fun _=>by omega)) ?_;refine Zq O (fun _=>Zpa (Zd O) Xg) ?_;refine Zq O (fun _=>Zl (Zd O)) ?_;refine Zj O O O (fun _=>Zl (Zd O)) ?_
 refine Zj O O O (fun _=>Jra (Zm O id) Xg (fun _=>by omega)) ?_;refine Zj O O O (fun _=>Zl (Zd O)) ?_;refine Zj O O O (fun _=>Yfa Yv (Zm O id)) ?_;refine Zj O O O (fun _=>Qwc (Zm O id) (Zm O id)) ?_;refine Zq O (fun _=>Yd (Zd O) (Zm O id)) ?_;refine Zq O (fun _=>Zl (Zd O)) ?_;refine Zj O O O (fun _=>Zl (Zd O)) ?_;refine Zj O O O (fun _=>Zl (Zd O)) ?_;refine Zj O O O (fun _=>Jra (Zm O id) Xg (fun _=>by omega)) ?_;refine Zj O O O (fun _=>Jq Yv (Zm O id) (Zm O id) (fun hc=>by have:=hc.2;simp only [Bool.and_eq_true,decide_eq_true_eq] at this;omega)) ?_;refine Zj O O O (fun _=>Zpa (Zm O id) Xg) ?_;refine Zq O (fun _=>Yd (Zd O) (Zm O id)) ?_;refine Zq O (fun _=>Yu (Zd O)) ?_;refine Vf [(0,_,_),(1,_,_),(4,_,_),(5,_,_),(6,_,_),(97,_,_)] (Za O (Za O (Za O (Za O (Za O (Za O (Zo _))))))) ?_;refine Ze (hK28 _ _ ?_);refine Yva (Zd O) (fun h9=>?_) (fun h9=>?_);skip;replace h9:((decide (cAt s p=47)&&decide ((p:Int)+1<s.length))&&decide (cAt s (p+1)=47))=true:=h9;refine Ws fun K29 hK29=>?_;refine Yo ?_;refine Wta (fun (n:Nat) u=>p+n≤s.length∧runN isNotLf (s.drop p)=n+runN isNotLf (s.drop (p+n))∧G w u∧Blk u b4 Vy [.int .i64 0,.string ⟨#[]⟩,.int .i64 0]) (fun n=>[(0,True,Str s),(1,True,.int .i64 p),(4,True,.pointer (some ⟨b4,0,none⟩)),(6,True,.int .i64 (p+n:Nat))]) (fun n=>s.length-n) 0 ⟨by omega,by simp,g,B4⟩ (Za O (Za O (Za O (Za O (Zo _))))) ?_;rintro n u ⟨hn,he,g,B4⟩;refine Ws fun K30 hK30=>?_;refine Ws fun K31 hK31=>?_;refine Wf [3,3,3,3,3,3,3,3,3,3] ?_;refine Zq O (fun _=>Zl (Zd O)) ?_;refine Zq O (fun _=>Zl (Zd O)) ?_;refine Zq O (fun _=>Yfa Yv (Zd O)) ?_;refine Zq O (fun _=>Qwc (Zd O) (Zd O)) ?_
 refine Zq O (fun _=>Zl (Zd O)) ?_;refine Zj O O O (fun _=>Zl (Zd O)) ?_;refine Zj O O O (fun _=>Zl (Zd O)) ?_;refine Zj O O O (fun _=>Jq Yv (Zm O id) (Zm O id) (fun hc=>by have:=of_decide_eq_true hc.2;omega)) ?_;refine Zj O O O (fun _=>Qvc (Zm O id) Xg) ?_;refine Zq O (fun _=>Yd (Zd O) (Zm O id)) ?_;refine Vf [(0,_,_),(1,_,_),(4,_,_),(6,_,_),(125,_,_)] (Za O (Za O (Za O (Za O (Za O (Zo _)))))) ?_;refine Ze (hK31 _ _ ?_);refine Yva (Zd O) (fun h10=>?_) (fun h10=>?_);skip;have hm:=Vqd (q:=isNotLf) h10 he;refine Yb (hK30 _ _ ?_);refine Zua [(0,_,_),(1,_,_),(4,_,_),(6,_,_)] (Za O (Za O (Za O (Za O (Zo _))))) ?_;refine Yo ?_;refine Wf [3,3,3] ?_;refine Zq O (fun _=>Zl (Zd O)) ?_;refine Jta O O (by omega) ?_;refine Zq O (fun _=>Yu (Zd O)) ?_;refine Vf [(0,_,_),(1,_,_),(4,_,_),(6,_,_)] (Za O (Za O (Za O (Za O (Zo _))))) ?_;refine Ze (fun a ha=>?_);exact ⟨n+1,ha,⟨hm.1,hm.2,g,B4⟩,by omega⟩;skip;obtain rfl:=Vrd (q:=isNotLf) h10 he;have e:(((p+runN isNotLf (s.drop p):Nat):Int)).toNat-(p:Int).toNat=runN isNotLf (s.drop p):=by omega
 have hN:nextR s p=(⟨5,(s.drop p).take (runN isNotLf (s.drop p)),p⟩,0):=by unfold nextR;rw [h1,h6,h9];rfl
 refine Jl O (hK29 _ _ ?_);refine Zua [(0,_,_),(1,_,_),(4,_,_),(6,_,_)] (Za O (Za O (Za O (Za O (Zo _))))) ?_;refine Ws fun K32 hK32=>?_;refine Wf [3,3,3,3,3,3,2,3] ?_;refine Zq O (fun _=>Zl (Zd O)) ?_;refine Zq O (fun _=>Zl (Zd O)) ?_;refine Zq O (fun _=>Zl (Zd O)) ?_;refine Zq O (fun _=>Whb Yv (Zd O) (Zd O) (Zd O) (fun _=>by omega)) ?_;rw [e];refine Zq O (fun _=>Zl (Zd O)) ?_;refine Jv Wa Jb (pqc O (pqc O (pqc O pq0))) O O ?_;refine Vh O Qk (Zd O) (Zd O) O O B4 O O ?_;intro wS9 hgS9 hzS9;clear B4;intro B4;have g:=Ya g hgS9 (by omega);refine Zq O (fun _=>Yu Xg) ?_;refine Ze (hK32 _ _ ?_);refine Zua [(0,_,_),(1,_,_),(4,_,_),(5,_,_),(6,_,_),(128,_,_),(129,_,_),(130,_,_),(131,_,_),(132,_,_),(133,_,_)] (Za O (Za O (Za O (Za O (Za O (Za O (Za O (Za O (Za O (Za O (Za O (Zo _)))))))))))) ?_;refine Xe (Ut (rs:=[.cell 4 85,.tmp 5]) (vs:=[_,_]) O O (Qy O Wq O (by first|exact B4.row) (Qm O (Wy))) O ?_);rw [hN];exact ⟨rfl,g⟩;skip;replace h9:((decide (cAt s p=47)&&decide ((p:Int)+1<s.length))&&decide (cAt s (p+1)=47))=false:=h9;refine Yb (hK3 _ _ ?_);refine Zua [(0,_,_),(1,_,_),(4,_,_),(5,_,_)] (Za O (Za O (Za O (Za O (Zo _))))) ?_;refine Ws fun K33 hK33=>?_;refine Wf [3,3,3,1,3] ?_;refine Zq O (fun _=>Zl (Zd O)) ?_;refine Zq O (fun _=>Zl (Zd O)) ?_;refine Zq O (fun _=>Qab Yv (Zd O) (Zd O) (fun _=>by omega)) ?_;refine Vg O (Yi Jyc Vc (Ym (Zd O) (Xh)) O) (Qme _ (by show (s.drop p).length≤20000;rw [List.length_drop];omega) _) (fun w137 g137=>?_);have g:=g.trans g137;replace B4:=B4.grow (g137);refine Zq O (fun _=>Yu (Zd O)) ?_;refine Ze (hK33 _ _ ?_)
 refine Zua [(0,_,_),(1,_,_),(4,_,_),(5,_,_),(10,_,_),(134,_,_),(135,_,_),(136,_,_),(137,_,_)] (Za O (Za O (Za O (Za O (Za O (Za O (Za O (Za O (Za O (Zo _)))))))))) ?_;refine Ws fun K34 hK34=>?_;refine Ws fun K35 hK35=>?_;refine Wf [3,3] ?_;refine Zq O (fun _=>Zl (Zd O)) ?_;refine Zq O (fun _=>Xnc (Zd O) Xg) ?_;refine Ze (hK35 _ _ ?_);refine Yva (Zd O) (fun h11=>?_) (fun h11=>?_);skip;replace h11:decide ((s.drop p).take (opLenR (s.drop p))=[])=true:=h11;have hN:nextR s p=(⟨0,[],0⟩,4):=by unfold nextR;rw [h1,h6,h9,h11];rfl
 refine Ws fun K36 hK36=>?_;refine Wf [3,2,3] ?_;refine Jv Wa Jb pq0 O O ?_;refine Vh O Qk (Zd O) (Zd O) O O B4 O O ?_;intro wS10 hgS10 hzS10;clear B4;intro B4;have g:=Ya g hgS10 (by omega);refine Zq O (fun _=>Yu Xg) ?_;refine Ze (hK36 _ _ ?_);refine Xe (Ut (rs:=[.cell 4 85,.tmp 5]) (vs:=[_,_]) O O (Qy O Wq O (by first|exact B4.row) (Qm O (Wy))) O ?_);rw [hN];exact ⟨rfl,g⟩;skip;replace h11:decide ((s.drop p).take (opLenR (s.drop p))=[])=false:=h11;have hN:nextR s p=(⟨4,(s.drop p).take (opLenR (s.drop p)),p⟩,0):=by unfold nextR;rw [h1,h6,h9,h11];rfl
 refine Yb (hK34 _ _ ?_);refine Ws fun K37 hK37=>?_;refine Wf [3,3,3,2,3] ?_;refine Zq O (fun _=>Zl (Zd O)) ?_;refine Zq O (fun _=>Zl (Zd O)) ?_;refine Jv Wa Jb (pqc O (pqc O (pqc O pq0))) O O ?_;refine Vh O Qk (Zd O) (Zd O) O O B4 O O ?_;intro wS11 hgS11 hzS11;clear B4;intro B4;have g:=Ya g hgS11 (by omega);refine Zq O (fun _=>Yu Xg) ?_;refine Ze (hK37 _ _ ?_);refine Xe (Ut (rs:=[.cell 4 85,.tmp 5]) (vs:=[_,_]) O O (Qy O Wq O (by first|exact B4.row) (Qm O (Wy))) O ?_);rw [hN];exact ⟨rfl,g⟩
end Go.Rk
namespace Go.Rk
open Go.Proofs
open Go
theorem Ygf{s:List UInt8}{p:Nat}(h:p<s.length):cAt s p=(s[p].toNat:Int):=by
 simp [cAt,List.getD_eq_getElem?_getD,List.getElem?_eq_getElem h]
theorem Wmg{s:List UInt8}{p:Nat}(h:p<s.length)(u:UInt8):decide (cAt s p=(u.toNat:Int))=decide (s[p]=u):=by
 rw [Ygf h,Bool.eq_iff_iff];simp only [decide_eq_true_eq];constructor;intro e;exact UInt8.toNat_inj.mp (by omega);rintro e;rw [e]
theorem Qne{s:List UInt8}{p:Nat}(h:p<s.length):preB [47,47] (s.drop p)=((decide (cAt s p=47)&&decide ((p:Int)+1<s.length))&&decide (cAt s (p+1)=47)):=by
 have e1:=Wmg h 47;rw [show ((47:UInt8).toNat:Int)=47 from rfl] at e1;rw [preB,List.length_drop];by_cases h1:p+1<s.length;have e2:=Wmg h1 47;rw [show ((47:UInt8).toNat:Int)=47 from rfl] at e2;rw [e1,e2,Weh (by omega:(p:Int)+1<s.length),Weh (show [(47:UInt8),47].length≤s.length-p by simp;omega)];rw [List.drop_eq_getElem_cons h,List.drop_eq_getElem_cons h1];rw [show [(47:UInt8),47].length=2 from rfl,Bool.eq_iff_iff];simp only [List.take_succ_cons,List.take_zero,decide_eq_true_eq,Bool.and_eq_true,Bool.true_and,Bool.and_true,List.cons.injEq,and_true];rw [Wdh (by omega:¬ (p:Int)+1<s.length),Wdh (show ¬ [(47:UInt8),47].length≤s.length-p by simp;omega)];simp
/-! operators -/
def ops2:List (List UInt8):=opsL.take 8
def ops1:List (List UInt8):=opsL.drop 8
theorem Uoc:∀ o∈ops2,o.length=2:=by decide
theorem Vsd:∀ o∈ops1,o.length=1:=by decide
theorem Jrd:opsL=ops2++ops1:=(List.take_append_drop 8 opsL).symm
theorem Waf{os:List (List UInt8)}{n:Nat}(h:∀ o∈os,o.length=n)(l:List UInt8):os.any (fun o=>preB o l)=(decide (n≤l.length)&&inB os (l.take n)):=by
 induction os with
 | nil=>simp [inB]
 | cons o os ih =>
  have ho:=h o (List.mem_cons_self ..);rw [List.any_cons,ih (fun x hx=>h x (List.mem_cons_of_mem _ hx))];simp only [inB,List.any_cons,preB,ho];cases decide (n≤l.length) <;> simp
theorem Xle{os:List (List UInt8)}{n:Nat}(h:∀ o∈os,o.length=n){l:List UInt8}(hl:l.length≠n):inB os l=false:=by
 rw [inB,List.any_eq_false];intro o ho;have:=h o ho;simp only [decide_eq_true_eq];intro e;exact hl (e▸this)
theorem Wbf(a b:List (List UInt8))(l:List UInt8):inB (a++b) l=(inB a l || inB b l):=by simp [inB]
theorem Qoe{os:List (List UInt8)}{n:Nat}(h:∀ o∈os,o.length=n)(l:List UInt8):(os.find? (fun o=>preB o l)).map List.length=bif os.any (fun o=>preB o l) then some n else none:=by
 induction os with
 | nil=>rfl
 | cons o os ih =>
  rw [List.find?_cons,List.any_cons];cases hp:preB o l;simpa using ih (fun x hx=>h x (List.mem_cons_of_mem _ hx));simp [h o (List.mem_cons_self ..)]
theorem Utf(l:List UInt8):Xsb l=((opsL.find? (fun o=>preB o l)).map List.length).getD 0:=by
 rw [Xsb];cases opsL.find? (fun o=>preB o l) <;> rfl
theorem Wcf(l:List UInt8):Xsb l=opLenR l:=by
 have h2:=Qoe Uoc l;have h1:=Qoe Vsd l;have a2:=Waf Uoc l;have a1:=Waf Vsd l;rw [Utf,Jrd,List.find?_append];unfold opLenR;rw [Jrd,Wbf,Wbf];by_cases hl2:2≤l.length;rw [Xle Vsd (l:=l.take 2) (by rw [List.length_take];omega),Xle Uoc (l:=l.take 1) (by rw [List.length_take];omega),Bool.or_false,Bool.false_or,← a2,← a1]
 cases hx:ops2.find? (fun o=>preB o l) with
 | some o=>rw [hx] at h2;cases hy:ops2.any (fun o=>preB o l) <;> rw [hy] at h2 <;> simp at h2 ⊢;exact h2
 | none =>
  rw [hx] at h2;cases hy:ops2.any (fun o=>preB o l)
  cases hz:ops1.find? (fun o=>preB o l) with
  | some o=>rw [hz] at h1;cases hw:ops1.any (fun o=>preB o l) <;> rw [hw] at h1 <;> simp at h1 ⊢;exact h1
  | none=>rw [hz] at h1;cases hw:ops1.any (fun o=>preB o l) <;> rw [hw] at h1 <;> simp at h1 ⊢
  rw [hy] at h2;simp at h2
 have e2:ops2.any (fun o=>preB o l)=false:=by rw [a2,Wdh hl2];rfl
 rw [Wdh hl2,Bool.false_and,cond_false]
 cases hx:ops2.find? (fun o=>preB o l) with
 | some o=>rw [hx,e2] at h2;simp at h2
 | none =>
  by_cases hl1:1≤l.length;rw [Xle Uoc (l:=l.take 1) (by rw [List.length_take];omega),Bool.false_or,← a1]
  cases hz:ops1.find? (fun o=>preB o l) with
  | some o=>rw [hz] at h1;cases hw:ops1.any (fun o=>preB o l) <;> rw [hw] at h1 <;> simp at h1 ⊢;exact h1
  | none=>rw [hz] at h1;cases hw:ops1.any (fun o=>preB o l) <;> rw [hw] at h1 <;> simp at h1 ⊢
  rw [Wdh hl1,Bool.false_and] at a1 ⊢;rw [a1] at h1
  cases hz:ops1.find? (fun o=>preB o l) with
  | some o=>rw [hz] at h1;simp at h1
  | none=>rfl
theorem Jsd(l:List UInt8):opLenR l≤l.length:=by
 unfold opLenR;cases h2:decide (2≤l.length)&&inB opsL (l.take 2);cases h1:decide (1≤l.length)&&inB opsL (l.take 1);exact Nat.zero_le _;simp only [Bool.and_eq_true,decide_eq_true_eq] at h1;exact h1.1;simp only [Bool.and_eq_true,decide_eq_true_eq] at h2;exact h2.1
/-! integers -/
theorem Wng(l:List UInt8)(h:allD l):∀ a,a*10 ^ l.length≤valN a l:=by
 induction l with
 | nil=>intro a;show a*1≤a;omega
 | cons c l ih =>
  intro a;have:=ih (fun x hx=>h x (List.mem_cons_of_mem _ hx)) (a*10+(c.toNat-48));rw [Xrb,List.length_cons,Nat.pow_succ];refine Nat.le_trans ?_ this;rw [show a*(10 ^ l.length*10)=(a*10)*10 ^ l.length by rw [Nat.mul_assoc,Nat.mul_comm 10]];exact Nat.mul_le_mul_right _ (by omega)
theorem Jig{l:List UInt8}(h:allD l)(h0:cAt l 0≠48)(hv:valN 0 l<9223372036854775808):l.length≤19:=by
 cases l with
 | nil=>simp
 | cons c l =>
  have hc:=h c (List.mem_cons_self ..);have hne:c.toNat≠48:=by intro e;exact h0 (by simp [cAt,e])
  have h1:=Wng l (fun x hx=>h x (List.mem_cons_of_mem _ hx)) (0*10+(c.toNat-48));rw [Xrb] at hv;have h2:10 ^ l.length≤(0*10+(c.toNat-48))*10 ^ l.length:=Nat.le_mul_of_pos_left _ (by omega);by_cases hl:l.length≤18;simp;omega;exfalso;have h3:(10:Nat) ^ 19≤10 ^ l.length:=Nat.pow_le_pow_right (by decide) (by omega);have h4:(10:Nat) ^ 19=10000000000000000000:=by decide
  omega
theorem Uuf{s:List UInt8}{p:Nat}(ts cs:List Tok)(h:p<s.length)(hb:(decide (cAt s p=10) || ((decide (cAt s p=32) || decide (cAt s p=9)) || decide (cAt s p=13)))=false) :
 nextF s p ts cs=bif !decide ((nextR s p).2=0) then (p,ts,cs,(nextR s p).2) else bif decide ((nextR s p).1.kind=5) then (p+(nextR s p).1.text.length,ts,cs++[(nextR s p).1],0) else (p+(nextR s p).1.text.length,ts++[(nextR s p).1],cs,0):=by
 rw [Bool.or_eq_false_iff] at hb;have hlen:∀ n,p+n≤s.length→((s.drop p).take n).length=n:=fun n hn=>by rw [List.length_take,List.length_drop];omega
 unfold nextF nextR;rw [hb.1,hb.2,Qne h];cases h3:(decide (cAt s p=47)&&decide ((p:Int)+1<s.length))&&decide (cAt s (p+1)=47);cases h4:letterB (cAt s p);cases h6:digitB (cAt s p);simp only [cond_false];have hle:=Jsd (s.drop p);rw [List.length_drop] at hle;rw [Wcf];cases h0:Nat.beq (opLenR (s.drop p)) 0;have hne:opLenR (s.drop p)≠0:=by intro e;rw [e] at h0;cases h0
 rw [Wdh (show ¬ (s.drop p).take (opLenR (s.drop p))=[] by intro e;have:=congrArg List.length e;rw [hlen _ (by omega)] at this;exact hne this)];simp [hlen _ (show p+opLenR (s.drop p)≤s.length by omega)];have e0:=Nat.eq_of_beq_eq_true h0;rw [e0];simp;simp only [cond_true,cond_false];have hf:=Wpa digitB h;have hpos:=Vxa (q:=digitB) h h6;have hd:=Jlb s p;have hl:=hlen _ hf
 have hc0:cAt ((s.drop p).take (runN digitB (s.drop p))) 0=cAt s p:=by
  rw [Ygf (by omega),Ygf h];simp
 rw [badD];cases hlt:decide ((p:Int)+runN digitB (s.drop p)<s.length)&&letterB (cAt s (p+runN digitB (s.drop p)));simp only [Bool.or_false];rw [intOk,hl,hc0];by_cases hv:valN 0 ((s.drop p).take (runN digitB (s.drop p)))<9223372036854775808;rw [Weh hv,Weh (show ((valN 0 ((s.drop p).take (runN digitB (s.drop p))):Nat):Int)<9223372036854775808 by omega)];by_cases h48:cAt s p=48;rw [Weh h48];by_cases h1:(1:Int)<runN digitB (s.drop p);rw [Weh h1];simp;rw [Wdh h1,Weh (show runN digitB (s.drop p)≤19 by omega)];simp [hl];rw [Wdh h48,Weh (show runN digitB (s.drop p)≤19 by rw [← hl];exact Jig hd (by rw [hc0];exact h48) hv)];simp [hl];rw [Wdh hv,Wdh (show ¬ ((valN 0 ((s.drop p).take (runN digitB (s.drop p))):Nat):Int)<9223372036854775808 by omega)];cases (decide (cAt s p=48)&&decide ((1:Int)<runN digitB (s.drop p))) <;> simp
 simp;simp only [cond_true,cond_false];have hf:=Wpa isAlnum h;cases h5:decide ((32:Int)<runN isAlnum (s.drop p));rw [wordK];cases inB kws ((s.drop p).take (runN isAlnum (s.drop p))) <;> simp [hlen _ hf]
 simp;have hc:cAt s p=47:=by simp only [Bool.and_eq_true,decide_eq_true_eq] at h3;exact h3.1.1
 have h4:letterB (cAt s p)=false:=by rw [hc];rfl
 have h6:digitB (cAt s p)=false:=by rw [hc];rfl
 have hf:=Wpa isNotLf h;rw [h4,h6];simp [hlen _ hf]
end Go.Rk
namespace Go.Rk
open Go.Proofs
open Go Go.RowKit
structure Two (base:Nat) (ts cs:List Tok) (a b:Value) (w:World):Prop where
  ht:Toks base ts a w
  hc:Toks base cs b w
  n3:∀ k,a.ownBlock=some k→b.ownBlock≠some k
theorem Two.grow{base:Nat}{ts cs:List Tok}{a b:Value}{w w':World}(h:Two base ts cs a b w)(g:G w w'):Two base ts cs a b w':=⟨Xz h.ht g,Xz h.hc g,h.n3⟩
theorem Two.putT{base:Nat}{ts cs:List Tok}{a b:Value}{w w1:World}{ta':Option Addr}{m tc':Nat}{t:Tok}{xs:List Value}(h:Two base ts cs a b w)(h1:w1.ownsRow base Vy 3 (.slice ta' m tc') m xs)(hg:w.grownBy w1 a.ownBlock)
 (hat:(Value.slice ta' m tc').ownBlock=a.ownBlock∨(Value.slice ta' m tc').ownBlock=some w.heap.size) (hm:m=ts.length+1) (hx:xs=toksCells ts++tokCells t):Two base (ts++[t]) cs (.slice ta' m tc') b w1:=by
 subst hm hx;refine ⟨?_,Xqb h.hc h.n3 hg,Vwa h.hc h.n3 hat⟩;unfold Toks;rw [List.length_append,Yoa];exact h1
theorem Two.putC{base:Nat}{ts cs:List Tok}{a b:Value}{w w1:World}{ta':Option Addr}{m tc':Nat}{t:Tok}{xs:List Value}(h:Two base ts cs a b w)(h1:w1.ownsRow base Vy 3 (.slice ta' m tc') m xs)(hg:w.grownBy w1 b.ownBlock)
 (hat:(Value.slice ta' m tc').ownBlock=b.ownBlock∨(Value.slice ta' m tc').ownBlock=some w.heap.size) (hm:m=cs.length+1) (hx:xs=toksCells cs++tokCells t):Two base ts (cs++[t]) a (.slice ta' m tc') w1:=by
 subst hm hx;have n3':∀ k,b.ownBlock=some k→a.ownBlock≠some k:=fun k hk he=>h.n3 k he hk;refine ⟨Xqb h.ht n3' hg,?_,fun k hk he=>Vwa h.ht n3' hat k he hk⟩;unfold Toks;rw [List.length_append,Yoa];exact h1
theorem Two.below{base:Nat}{ts cs:List Tok}{a b:Value}{w0 w w1:World}(h:Two base ts cs a b w)(g:Below base w0 w)(hz:base≤w.heap.size)(hg:w.grownBy w1 a.ownBlock):Below base w0 w1:=Zga g hg hz (fun k hk=>(h.ht.lt k hk).1)
theorem Two.belowC{base:Nat}{ts cs:List Tok}{a b:Value}{w0 w w1:World}(h:Two base ts cs a b w)(g:Below base w0 w)(hz:base≤w.heap.size)(hg:w.grownBy w1 b.ownBlock):Below base w0 w1:=Zga g hg hz (fun k hk=>(h.hc.lt k hk).1)
theorem Wog{s:List UInt8}{p:Nat}(ts cs:List Tok)(h:p<s.length):(nextF s p ts cs).1≤s.length:=by
 have f1:=Wpa isNotLf h;have f2:=Wpa isAlnum h;have f3:=Wpa digitB h;have f4:=Jsd (s.drop p);rw [List.length_drop] at f4;unfold nextF;rw [Wcf];cases decide (cAt s p=10);cases ((decide (cAt s p=32) || decide (cAt s p=9)) || decide (cAt s p=13));cases preB [47,47] (s.drop p);cases letterB (cAt s p);cases digitB (cAt s p);cases Nat.beq (opLenR (s.drop p)) 0;simp only [cond_true,cond_false];omega;simp only [cond_true,cond_false];omega;cases badD s p (runN digitB (s.drop p));cases decide (valN 0 ((s.drop p).take (runN digitB (s.drop p)))<9223372036854775808);simp only [cond_true,cond_false];omega;simp only [cond_true,cond_false];omega;simp only [cond_true,cond_false];omega;cases decide ((32:Int)<runN isAlnum (s.drop p));simp only [cond_true,cond_false];omega;simp only [cond_true,cond_false];omega;simp only [cond_true,cond_false];omega;simp only [cond_true,cond_false];omega;simp only [cond_true,cond_false];omega
def lastT(ts:List Tok):Tok:=ts.getLast?.getD ⟨0,[],0⟩
theorem Jjg(p:Nat)(ts:List Tok):nlTs p ts=bif decide ((0:Int)<ts.length)&&endsT (lastT ts) then ts++[⟨4,[59],p⟩] else ts:=by
 unfold nlTs lastT;rcases List.eq_nil_or_concat ts with rfl|⟨l,x,e⟩;rfl;have e:ts=l++[x]:=by simpa using e
 rw [e,Weh (by simp:(0:Int)<((l++[x]).length:Nat))];simp only [List.getLast?_append,List.getLast?_singleton,Option.some_or,Option.getD_some,Bool.true_and];cases h:endsT x <;> simp
theorem Jkg{base:Nat}{ts:List Tok}{ta:Option Addr}{tc:Nat}{u:World}(h:Toks base ts (.slice ta ts.length tc) u):∃ bt,0<ts.length→ta=some ⟨bt,0,none⟩∧RowAt u bt (0+((ts.length:Nat)-1:Int).toNat*3) (tokCells (lastT ts)):=by
 rcases List.eq_nil_or_concat ts with rfl|⟨l,x,e⟩;exact ⟨0,fun h=>absurd h (by simp)⟩;have e:ts=l++[x]:=by simpa using e
 subst e;obtain ⟨bt,ct,ev,_,hrow,_⟩:=Uya h (by simp);injection ev with e1 e2 e3;refine ⟨bt,fun _=>⟨e1,?_⟩⟩;rw [show lastT (l++[x])=x by simp [lastT]];exact Vae hrow
def allR(s:List UInt8):List Tok×List Tok×Nat×Int:=((allF s).2.1,(allF s).2.2.1,bif !decide ((allF s).2.2.2=0) then (allF s).1 else 0,(allF s).2.2.2)
theorem Jlg(s:List UInt8)(w:World):Ret PP Jde #[Str s] w fun v w'=>∃ a b,v = .tuple #[a,b,.int .i64 (allR s).2.2.1,.int .i64 (allR s).2.2.2]∧Two w.heap.size (allR s).1 (allR s).2.1 a b w'∧G w w':=by
 have g:=G.refl w;refine Zca (m:=78) Zhe O O [(0,True,_)] (Za O (Zo _)) ?_;refine Zi (Zk (Yr O (Yr O (Yr O (Yr O (Ze (kq (Zi (Zi (Zk (Zp O (Zq O (fun _=>Yfa Yv (Zd O)) (Xve O O (Ze (kq (Wn O (fun h1=>?_) (fun h1=>?_)))))))))))))))));have hN:allF s=(0,[],[],3):=by unfold allF;rw [h1];rfl
 refine Zi (Zk (Yr O (Yr O (Yr O (Yr O (Ze (kq (Xe (Wkb (ts:=[2,3,4,5]) (vs:=[_,_,_,_]) O O O ?_)))))))));rw [allR,hN];exact ⟨_,_,rfl,⟨Zja _ _ _ _,Zja _ _ _ _,(by intro k h;cases h)⟩,g⟩;have hN:allF s=goF s s.length 0 [] []:=by unfold allF;rw [h1];rfl
 simp only [decide_eq_false_iff_not] at h1;refine Yb (kq (Zi (Zk (Yr O (Yr O (Ze (kq (Zi (Zk (Yr O (Ze (kq (Zi (Yo (?_)))))))))))))))
 refine Wta (fun (x:Nat×List Tok×List Tok×Nat×(Option Addr×Nat)×(Option Addr×Nat)) u=>Two w.heap.size x.2.1 x.2.2.1 (.slice x.2.2.2.2.1.1 x.2.1.length x.2.2.2.2.1.2) (.slice x.2.2.2.2.2.1 x.2.2.1.length x.2.2.2.2.2.2) u∧x.2.1.length≤x.1∧x.2.2.1.length≤x.1∧x.1≤s.length∧s.length-x.1≤x.2.2.2.1∧goF s x.2.2.2.1 x.1 x.2.1 x.2.2.1=goF s s.length 0 [] []∧G w u)
  (fun x=>[(0,True,Str s),(6,True,.slice x.2.2.2.2.1.1 x.2.1.length x.2.2.2.2.1.2),(7,True,.slice x.2.2.2.2.2.1 x.2.2.1.length x.2.2.2.2.2.2),(8,True,.int .i64 x.1)]) (fun x=>s.length-x.1) (0,[],[],s.length,(none,0),(none,0))
  ⟨⟨Zja _ _ _ _,Zja _ _ _ _,(by intro k h;cases h)⟩,Nat.le_refl _,Nat.le_refl _,Nat.zero_le _,Nat.sub_le _ _,rfl,g⟩ (Za rfl (Za rfl (Za rfl (Za rfl (Zo _))))) ?_
 rintro ⟨p,ts,cs,f,⟨ta,tc⟩,⟨ca,cc⟩⟩ u ⟨hT,k1,k2,k3,hf,he,hw⟩;replace hT:Two w.heap.size ts cs (.slice ta ts.length tc) (.slice ca cs.length cc) u:=hT;replace k1:ts.length≤p:=k1;replace k2:cs.length≤p:=k2;replace k3:p≤s.length:=k3;replace hf:s.length-p≤f:=hf;replace he:goF s f p ts cs=goF s s.length 0 [] []:=he;have g:=G.refl u;refine Zi (Zi (Zk (Zp O (Zp O (Zq O (fun _=>Yfa Yv (Zd O)) (Xna O O (Ze (kq (Wn O (fun h2=>?_) (fun h2=>?_))))))))));replace h2:p<s.length:=by simp only [decide_eq_true_eq] at h2;omega
 obtain ⟨f',rfl⟩:∃ f',f=f'+1:=⟨f-1,by omega⟩;rw [goF,Weh h2,cond_true] at he;have hle:=Wog ts cs h2;refine Yb (kq (Yo (Zi (Zi (Zk (Zp O (Zp O (Zq O (fun _=>Jq Yv (Zd O) (Zd O) (fun _=>by show 0≤(p:Int)∧(p:Int)<s.length;omega)) (Ze (kq (Yo (Zi (Zi (Zk (Zya O O (Yr O (Ze (kq (?_)))))))))))))))))));refine' Qfd [(0,_,_),(6,_,_),(7,_,_),(8,_,_),(20,_,_)] (Za O (Za O (Za O (Za O (Za O (Za O (Zo _))))))) O (fun hb3=>?y3) (kq ?n3)
 case y3 =>
  refine Zi (Zk (Zya O O (Yr O (Ze (kq (?_))))));refine' Qfd [(0,_,_),(6,_,_),(7,_,_),(8,_,_),(20,_,_)] (Za O (Za O (Za O (Za O (Za O (Za O (Zo _))))))) O (fun hb4=>?y4) knr
  case y4 =>
   refine Zk (Zya O O (Yr O (Vf [(21,_,_),(0,_,_),(6,_,_),(7,_,_),(8,_,_),(20,_,_)] (Za O (Za O (Za O (Za O (Za O (Za O (Zo _))))))) (?_))));exact Ze knr
 case n3 =>
  refine Wn O (fun h5=>?_) (fun h5=>?_);replace h5:(decide (cAt s p=32) || (decide (cAt s p=9) || decide (cAt s p=13)))=true:=h5
  have h10:decide (cAt s p=10)=false:=by
   simp only [Bool.or_eq_true,decide_eq_true_eq] at h5;rw [decide_eq_false_iff_not];omega
  rw [← Bool.or_assoc] at h5;have hst:nextF s p ts cs=(p+1,ts,cs,0):=by unfold nextF;rw [h10,h5];rfl
  rw [hst] at he hle;refine Zi (Zk (Zp O (Zq O (fun _=>Jra (Zd O) Xg (fun _=>by show _≤(p:Int)+1∧(p:Int)+1≤_;omega)) (Yr O (Ze (kq (Zua [(0,_,_),(6,_,_),(7,_,_),(8,_,_)] (Za O (Za O (Za O (Za O (Zo _))))) (Jl O (fun a ha=>?_)))))))));exact ⟨(p+1,ts,cs,f',(ta,tc),(ca,cc)),ha,⟨hT.grow g,by show ts.length≤p+1;omega,by show cs.length≤p+1;omega,h2,by show s.length-(p+1)≤f';omega,he,hw.trans g⟩,by show s.length-(p+1)<s.length-p;omega⟩;replace h5:(decide (cAt s p=32) || (decide (cAt s p=9) || decide (cAt s p=13)))=false:=h5;rw [← Bool.or_assoc] at h5;refine Zi (Zk (Zya O O (Yr O (Ze (kq (Wn O (fun h6=>?_) (fun h6=>?_)))))));replace h6:decide (cAt s p=10)=true:=h6;have hst:nextF s p ts cs=(p+1,nlTs p ts,cs,0):=by unfold nextF;rw [h6];rfl
  rw [Jjg] at hst;obtain ⟨bt,hbt⟩:=Jkg hT.ht;refine Zi (Zi (Zk (Zp O (Xha Xf O (Xve O O (Zp O (Zj O O O (fun _=>Zl (Zd O)) (Zj O O O (fun _=>Zl (Zd O)) (Zj O O O (fun _=>Vna Xf (Zm O id)) (Zj O O O (fun _=>Yfb (Zm O id) Xg (fun hc=>by show _≤(ts.length:Int)-1∧(ts.length:Int)-1≤_;omega)) (Zj O O O (fun _=>Qna Xf (Ev.to (v':=.slice (some ⟨bt,0,none⟩) ts.length tc) (Zm O id) (fun hc=>by rw [(hbt (by have:(0:Int)<ts.length:=of_decide_eq_true hc.2;omega)).1])) (Zm O id) (fun hc=>by have:(0:Int)<ts.length:=of_decide_eq_true hc.2;show 0≤(ts.length:Int)-1∧(ts.length:Int)-1<ts.length;omega)) (Yk O O O (Zy Wq (Zm O id) O (fun hc=>((hbt (by have:(0:Int)<ts.length:=of_decide_eq_true hc.2;omega)).2).grow g)) (Xt O O O (fun _=>(Yi Wme Vc (Ym (Zm O id) (Xh)) O)) (fun hc=>Jhg (lastT ts) _) (fun w39 g39=>?_))))))))))))));have g:=g.trans g39;refine Zq O (fun _=>Yd (Zd O) (Zm O id)) (Ze (kq (Wn O (fun h7=>?_) (fun h7=>?_))));rw [show (decide ((0:Int)<ts.length)&&endsT (lastT ts))=true from h7,cond_true] at hst;rw [hst] at he hle;have hlm:(ts++[(⟨4,[59],p⟩:Tok)]).length=ts.length+1:=by simp
  refine Zk (Zp O (Zp O (Jv Wa Jb (pqc O (pqc O (pqc O pq0))) O O (Wp _ O Xf Wa (pqc O pq0) O O ?_))));intro b44 w44 N44;have l44:=N44.ge g;have g:=g.trans N44.g;have E:=(Xia _).new N44;have hw:=hw.trans g;have hT:=hT.grow g;have hz0:=hw.size;refine Jg O Xf Wa O (by decide) (Zd O) hT.ht (Zd O) O N44.blk.row O (by simp only [maxLen];omega) (by omega) (by omega) ?_;intro ta' tc' w45 ht' hg45 hat;have hw:G w w45:=hT.below hw hw.size hg45;have hT:=hT.putT (t:=⟨4,[59],p⟩) ht' hg45 hat rfl rfl;rw [← hlm];rw [← hlm] at hT;have g:=G.refl w45;refine Yr O (Ze (kq (Zi (Zk (Zp O (Zq O (fun _=>Jra (Zd O) Xg (fun _=>by show _≤(p:Int)+1∧(p:Int)+1≤_;omega)) (Yr O (Ze (kq (Zua [(0,_,_),(6,_,_),(7,_,_),(8,_,_)] (Za O (Za O (Za O (Za O (Zo _))))) (Jl O (fun a ha=>?_))))))))))));exact ⟨(p+1,_,cs,f',(ta',tc'),(ca,cc)),ha,⟨hT.grow g,by show (ts++[(⟨4,[59],p⟩:Tok)]).length≤p+1;omega,by show cs.length≤p+1;omega,h2,by show s.length-(p+1)≤f';omega,he,hw.trans g⟩,by show s.length-(p+1)<s.length-p;omega⟩;rw [show (decide ((0:Int)<ts.length)&&endsT (lastT ts))=false from h7,cond_false] at hst;rw [hst] at he hle;refine Yb (kq (Zi (Zk (Zp O (Zq O (fun _=>Jra (Zd O) Xg (fun _=>by show _≤(p:Int)+1∧(p:Int)+1≤_;omega)) (Yr O (Ze (kq (Zua [(0,_,_),(6,_,_),(7,_,_),(8,_,_)] (Za O (Za O (Za O (Za O (Zo _))))) (Jl O (fun a ha=>?_)))))))))));exact ⟨(p+1,ts,cs,f',(ta,tc),(ca,cc)),ha,⟨hT.grow g,by show ts.length≤p+1;omega,by show cs.length≤p+1;omega,h2,by show s.length-(p+1)≤f';omega,he,hw.trans g⟩,by show s.length-(p+1)<s.length-p;omega⟩;replace h6:decide (cAt s p=10)=false:=h6
  have hst:=Uuf ts cs h2 (by rw [h6,h5];rfl);refine Yb (kq (Zi (Zk (Zp O (Zp O (Vg O (Yi Woe Vc (aqc O (aqc O aq0)) O) (Wlg s p h2 (by omega) _) (fun w51 g51=>?_)))))));have g:=g.trans g51;refine Zp O (Usc O O (Usc O O (Jm O Wa O ?_)));intro b9 w9 N9;have l9:=N9.ge g;have g:=g.trans N9.g;have E:=(Xia _).new N9;refine Ygb Qk O O O E.g0 ?_;intro wS1 hgS1 _ BS;replace E:=E.s0 hgS1 BS;have g:=Ya g hgS1 (by omega);refine Yr O (Ze (kq (Zi (Zi (Zk (Zp O (Yyd O O (Ze (kq (Wn O (fun h8=>?_) (fun h8=>?_)))))))))));rw [show (!decide ((nextR s p).2=0))=true from h8,cond_true] at hst;have h0:¬ (nextR s p).2=0:=by simpa using h8
  rw [hst] at he;replace he:(bif decide ((nextR s p).2=0) then goF s f' p ts cs else (p,ts,cs,(nextR s p).2))=goF s s.length 0 [] []:=he;rw [Wdh h0,cond_false] at he;have hA:allR s=(ts,cs,p,(nextR s p).2):=by rw [allR,hN,← he];simp only;rw [Wdh h0];rfl
  refine Zi (Zk (Zp O (Zp O (Zp O (Zp O (Yr O (Yr O (Yr O (Yr O (Ze (kq (Xe (Wkb (ts:=[2,3,4,5]) (vs:=[_,_,_,_]) O O O ?_)))))))))))));rw [hA];exact ⟨_,_,rfl,hT.grow g,hw.trans g⟩;rw [show (!decide ((nextR s p).2=0))=false from h8,cond_false] at hst;refine Yb (kq (Zi (Zi (Zk (Yf Zfb O (Yp Yh O (E.g0.at_ O) (Zya O O (Ze (kq (Wn O (fun h9=>?_) (fun h9=>?_)))))))))));rw [show decide ((nextR s p).1.kind=5)=true from h9,cond_true] at hst;have hlt:=Wad (ts:=ts) (cs:=cs) h2 (by rw [hst]);rw [hst] at he hle hlt;replace hle:p+(nextR s p).1.text.length≤s.length:=hle;replace hlt:p<p+(nextR s p).1.text.length:=hlt;have hlm:(cs++[(nextR s p).1]).length=cs.length+1:=by simp
  refine Zk (Zp O (Ve Wq O O E.g0.row (Wp _ O Xf Wa (pqc O pq0) O O ?_)));intro b65 w65 N65;have l65:=N65.ge g;have g:=g.trans N65.g;replace E:=E.new N65;have q9:(Value.slice ca cs.length cc).ownBlock≠some b9:=Qwe hT.hc l9;have hw:=hw.trans g;have hT:=hT.grow g;have hz0:=hw.size;refine Jg O Xf Wa O (by decide) (Zd O) hT.hc (Zd O) O N65.blk.row O (by simp only [maxLen];omega) (by omega) (by omega) ?_;intro ta' tc' w66 ht' hg66 hat;have hw:G w w66:=hT.belowC hw hw.size hg66;replace E:=E.sel [false,true];replace E:=E.keep hg66 (List.forall_mem_cons.2 ⟨((Ne.symm q9)),List.forall_mem_nil _⟩);have hT:=hT.putC (t:=(nextR s p).1) ht' hg66 hat rfl rfl;rw [← hlm];rw [← hlm] at hT;have g:=G.refl w66;refine Yr O (Ze (kq (Zk (Zp O (Yf Ja O (Yp Yg O (E.g0.at_ O) (Zq O (fun _=>Yfa Yv (Zd O)) (Zq O (fun _=>Jra (Zd O) (Zd O) (fun _=>by show _≤(p:Int)+((nextR s p).1.text.length:Nat)∧(p:Int)+((nextR s p).1.text.length:Nat)≤_;omega)) (Yr O (Vf [(0,_,_),(6,_,_),(7,_,_),(8,_,_)] (Za O (Za O (Za O (Za O (Zo _))))) (Ze (fun a ha=>?_))))))))))));exact ⟨(p+(nextR s p).1.text.length,ts,_,f',(ta,tc),(ta',tc')),ha,⟨hT.grow g,by show ts.length≤p+(nextR s p).1.text.length;omega,by show (cs++[(nextR s p).1]).length≤p+(nextR s p).1.text.length;omega,hle,by show s.length-(p+(nextR s p).1.text.length)≤f';omega,he,hw.trans g⟩,by show s.length-(p+(nextR s p).1.text.length)<s.length-p;omega⟩;rw [show decide ((nextR s p).1.kind=5)=false from h9,cond_false] at hst;have hlt:=Wad (ts:=ts) (cs:=cs) h2 (by rw [hst]);rw [hst] at he hle hlt;replace hle:p+(nextR s p).1.text.length≤s.length:=hle;replace hlt:p<p+(nextR s p).1.text.length:=hlt
  have hlm:(ts++[(nextR s p).1]).length=ts.length+1:=by simp
  refine Zk (Zp O (Ve Wq O O E.g0.row (Wp _ O Xf Wa (pqc O pq0) O O ?_)));intro b69 w69 N69;have l69:=N69.ge g;have g:=g.trans N69.g;replace E:=E.new N69;have q9:(Value.slice ta ts.length tc).ownBlock≠some b9:=Qwe hT.ht l9;have hw:=hw.trans g;have hT:=hT.grow g;have hz0:=hw.size;refine Jg O Xf Wa O (by decide) (Zd O) hT.ht (Zd O) O N69.blk.row O (by simp only [maxLen];omega) (by omega) (by omega) ?_;intro ta' tc' w70 ht' hg70 hat;have hw:G w w70:=hT.below hw hw.size hg70;replace E:=E.sel [false,true];replace E:=E.keep hg70 (List.forall_mem_cons.2 ⟨((Ne.symm q9)),List.forall_mem_nil _⟩);have hT:=hT.putT (t:=(nextR s p).1) ht' hg70 hat rfl rfl;rw [← hlm];rw [← hlm] at hT;have g:=G.refl w70;refine Yr O (Ze (kq (Zk (Zp O (Yf Ja O (Yp Yg O (E.g0.at_ O) (Zq O (fun _=>Yfa Yv (Zd O)) (Zq O (fun _=>Jra (Zd O) (Zd O) (fun _=>by show _≤(p:Int)+((nextR s p).1.text.length:Nat)∧(p:Int)+((nextR s p).1.text.length:Nat)≤_;omega)) (Yr O (Vf [(0,_,_),(6,_,_),(7,_,_),(8,_,_)] (Za O (Za O (Za O (Za O (Zo _))))) (Ze (fun a ha=>?_))))))))))));exact ⟨(p+(nextR s p).1.text.length,_,cs,f',(ta',tc'),(ca,cc)),ha,⟨hT.grow g,by show (ts++[(nextR s p).1]).length≤p+(nextR s p).1.text.length;omega,by show cs.length≤p+(nextR s p).1.text.length;omega,hle,by show s.length-(p+(nextR s p).1.text.length)≤f';omega,he,hw.trans g⟩,by show s.length-(p+(nextR s p).1.text.length)<s.length-p;omega⟩
 have hp:p=s.length:=by simp only [decide_eq_false_iff_not] at h2;omega
 have he:(p,ts,cs,(0:Int))=goF s s.length 0 [] []:=by
  rw [← he]
  cases f with
  | zero=>rfl
  | succ f'=>rw [goF,Wdh (by omega:¬ p<s.length)];rfl
 have hA:allR s=(ts,cs,0,0):=by rw [allR,hN,← he];rfl
 refine Jl O (kq (Zi (Zk (Zp O (Zp O (Yr O (Yr O (Yr O (Yr O (Ze (kq (Xe (Wkb (ts:=[2,3,4,5]) (vs:=[_,_,_,_]) O O O ?_)))))))))))));rw [hA];exact ⟨_,_,rfl,hT.grow g,hw.trans g⟩
theorem Wpg(s:List UInt8)(w:World):Ret PP Wfe #[Str s] w fun v w'=>∃ l,v = .tuple #[l,.int .i64 (scanF s).2.1,.int .i64 (scanF s).2.2]∧Toks w.heap.size (scanF s).1 l w'∧G w w':=by
 have g:=G.refl w;refine WK 21 [0] Ucd ?_;refine AU ?_;refine CL (Jlg s _) ?_;rintro v11 w11 ⟨a,b,rfl,hT,g11⟩;refine ⟨fun _=>g11,?_⟩;have g:=g.trans g11;refine IF (fun h1=>?_) fun h1=>?_;have h0:(!decide ((allF s).2.2.2=0))=true:=h1;refine RTN ?_;refine ⟨.slice none 0 0,?_,?_,g⟩;show Value.tuple #[_,.int .i64 ((bif !decide ((allF s).2.2.2=0) then (allF s).1 else 0:Nat):Int),_]=_;rw [scanF,h0];rfl;rw [scanF,h0];exact Zja _ _ _ _;have h0:(!decide ((allF s).2.2.2=0))=false:=h1;refine RTN ?_;refine ⟨a,?_,?_,g⟩;rw [scanF,h0];rfl;rw [scanF,h0];exact hT.ht
set_option maxHeartbeats 2000000
structure PsOk (s:List UInt8):Prop where
  tk:TkOk (scanF s).1
  ln:(scanF s).1.length≤100000
  cn:count (fileN (prsT (scanF s).1 s.length).1)≤1000000
theorem Uvf(s:List UInt8)(w:World)(H:PsOk s):Ret PP Wxc #[Str s] w fun r w'=>(∃ u,r = .tuple #[u,.int .i64 (parseF s).2.1,.int .i64 (parseF s).2.2]∧RetN (parseF s).1 w.heap.size u w')∧G w w':=by
 obtain ⟨n0,hn0⟩:∃ n,n=w.heap.size:=⟨_,rfl⟩;have X:=Wgg (l:=(scanF s).1) (sz:=s.length) (8*(scanF s).1.length+20);have K:=Wkg (l:=(scanF s).1) (sz:=s.length) H.tk (8*(scanF s).1.length+20);have g:=GT.refl mutP n0 w;have hll:=H.ln;refine WK 75 [0] Xdd ?_;refine AM fun b2 _ _ _ g E=>?_;refine AU ?_;refine CL (Wpg s _) ?_;rintro _ _ ⟨tl,rfl,hT,ga⟩;refine RC fun g E=>?_;obtain ⟨tp,tc,rfl,_⟩:=Voa hT;replace hT:=Qff (base':=0) hT (Nat.zero_le _);refine IF (fun h1=>?_) fun h1=>?_;have e1:(!decide ((scanF s).2.2=0))=true:=h1;refine AS fun _ _ _ g E=>?_;refine Yr O (Yr O (Ze (kq (Xe (Ut (rs:=[.cell 2 26,.tmp 3,.tmp 4]) (vs:=[_,_,_]) O O (Qy O Zh O (E.g0.row) (Qm O (Qm O (Wy)))) O ?_)))));have e:parseF s=(nd0,((scanF s).2.1:Int),(scanF s).2.2):=by unfold parseF;rw [e1];rfl
 rw [e];exact ⟨⟨_,rfl,Zr (t:=nd0) rfl (Wv _ _)⟩,Zyd (G.refl w) g (by omega)⟩;have e1:(!decide ((scanF s).2.2=0))=false:=h1;refine Yb (kq (Zi (Zk (Zp O (Zp O (Zq O (fun _=>Yfa Yv (Zd O)) (Jv Wfa Wga (pqc O (pqc O pq0)) O O (Wya O (Zd O) O ?_))))))));intro b25 w25 N25;have l25:=Yea N25 g.size;have B25:=N25.blk;have x25_2:=N25.ne E.g0;have g:=gtg g N25.g;replace E:=E.grow N25.g;have hT:=Xz hT (N25.g);refine AU ?_;have h:PR (scanF s).1 s.length n0 b25 tp tc ⟨0,false⟩ _:=⟨B25,by omega,hT,Nat.zero_le _,H.ln⟩;refine AN fun b9 _ ga _ g E=>?_;have hT:=Xz hT (ga.g);have h:=Ui h;refine AS fun _ ga Ca g E=>?_;have h:=Uc h;refine AU ?_;have hnd1:=E.1;refine Xo (fun (y:Nat×List Nd×PSt) u1=>match y with|⟨f,acc,T⟩=>(PR (scanF s).1 s.length n0 b25 tp tc T u1∧prsL (scanF s).1 s.length (pzN (scanF s).1 s.length (8*(scanF s).1.length+20)) f acc T=prsT (scanF s).1 s.length∧remQ (scanF s).1 T≤f∧acc.length+f≤(scanF s).1.length+1∧∃ v,Blk u1 b9 Ys (ndCells (fileN []) v)∧OwnN [b2,b9] w.heap.size u1 acc v)∧GT mutP n0 w u1) _ [(2,True,_),(3,True,_),(4,True,_),(8,True,_),(9,True,_)] (fun (y:Nat×List Nd×PSt)=>match y with|⟨f,acc,T⟩=>[]) (fun (y:Nat×List Nd×PSt)=>match y with|⟨f,acc,T⟩=>f) (((scanF s).1.length+1,[],⟨0,false⟩)) ⟨⟨h,rfl,by have:=Ufa (S:=(⟨0,false⟩:PSt)) (l:=(scanF s).1);omega,by simp,_,E.g0,Wqa _ _ _⟩,g⟩ (Zs (blkE E.g1) (Zz _)) (Za O (Za O (Za O (Za O (Za O (Zo _)))))) ?_;clear E;rintro ⟨f,acc,T⟩ u1 ⟨hI1,gl1⟩ ⟨B2,_⟩;replace B2:Blk _ _ _ _:=B2;have g:=gl1;obtain ⟨h,he,hf,hac,v,B9,hO⟩:=hI1;obtain ⟨sa,sc,rfl⟩:=hO.slice;have hTi:=h.hi;have E:=Jo (L:=[(b9,_,_),(b2,_,_)]) hnd1 ⟨B9,B2,trivial⟩ rfl
 refine AU ?_;refine Yx [3,3,3,0,3,3,3,3,3,0,3,3,3,0,3,3,3] [true,true,true,true,true,true,true,true,true,true,true,true,true,true,true,true,true] [0,1,3,7,15,31,63,127,255,511,63,1087,3135,7231,15423,32767,65535] mix (by kernel_rfl) ?_;have g:=gtd g;replace E:=E.dr;have hT:=Xz hT (G.drew _);have h:=h.grow (G.drew _);have hO:=hO.grow (G.drew _);refine IF (fun h2=>?_) fun h2=>?_;replace h2:(!T.bad&&decide ((T.ix:Int)<(scanF s).1.length))=true:=h2;have hnb:T.bad=false:=by simpa using (Bool.and_eq_true_iff.1 h2).1
 have hp:=Uea (l:=(scanF s).1) hnb;obtain ⟨f',rfl⟩:∃ f',f=f'+1:=⟨f-1,by omega⟩;rw [prsL,h2,cond_true] at he;dsimp only at he;have hn2:=(Qje (sz:=s.length) X T).num hTi;have hn3:=(Uy (l:=(scanF s).1) (s:=[59]) (by decide) (declQ (scanF s).1 s.length (pzN (scanF s).1 s.length (8*(scanF s).1.length+20)) T).2).num (Qje (sz:=s.length) X T hTi).1;have hOlt:=hO.lt;have hrl:=Ufa (S:=T) (l:=(scanF s).1);refine AU ?_;refine Xu (gtP n0) [3,0,3,1,1,2,3,2] [0,1,0,4,12,31,63,127] mix (by kernel_rfl) [0,1,2,3,4,5,6,7] O ?_;have g:=gtd g;replace E:=E.dr;have hT:=Xz hT (G.drew _);have h:=h.grow (G.drew _);have hO:=hO.grow (G.drew _);refine Zx 0 O O (fun _=>Zn Zg (Zd O)) (Wh 1 O O (fun w1 hx=>Zw Zf (Zd O) (fun _=>(E.g0.gt hx O).at_ O)) (Zx 2 O O (fun _=>Zl (Zd O)) (Zu 3 O O ?_)));refine Zv (L':=[4,5,6,7]) [3,0,3,2,1,2,3,2] O O O ?_;refine CL (PkN.to (Jgg X K) [b2,b9] h (by omega) (E.ltm (by simp [selB])) g.size) ?_;rintro v47 w47 ⟨⟨p47,c47,rfl,q47,k47⟩,h,g47⟩;refine ⟨nw1,?_⟩;have g:=g.trans g47;replace E:=E.gt g47 rfl;have hO:=hO.gt g47 rfl;refine Yj (g47) ?_;refine Zu 4 O O ?_;refine Zv (L':=[5,6,7]) [3,0,3,2,1,2,3,2] O O O ?_;refine CN fun _ _ N48 _ g E=>?_;have k47:=k47.new N48;have h:=h.grow (N48.g);have hO:=hO.grow (N48.g);refine Yj (GT.of_g (N48.g)) ?_;refine Zu 5 O O ?_;refine Ye (L':=[6,7]) [3,0,3,2,1,2,3,2] O O O O ?_;have hOo:=hO;refine Xx O Zc Zt O (Zd O) hO (Zd O) O E.g0.row (Ql k47 q47 (by intro j hj;simp at hj ⊢;omega) (fun j hj=>.inr (hOlt j hj))) (by simp;omega) (by have:=g.size;omega) ⟨by have:=g.size;omega,by have q2:=E.g2.lt;have q9:=E.g1.lt;simp;omega⟩ ?_;intro a49 c49 w49 hO hg49
 replace E:=E.sel [false,true,true];replace E:=E.keepX hg49 hOo.ne (by simp [selB]);have g:=Ww g hg49 (fun k hk=>hOo.ge k hk);have h:=h.keepO hg49 hOo;refine Yy ?_;refine Zx 6 O O (fun _=>Zn Zg (Zd O)) (Zu 7 O O ?_);refine Ye (L':=[]) [3,0,3,2,1,2,3,2] O O O O ?_;refine AS fun _ ga Ca g E=>?_;have h:=Uc h;have hO:=Ua hO;refine Yy ?_;refine TK [2,3,4,8,9] ?_;refine AU ?_;refine Yx [3,3,3,0,3,3,3,0,3,3] [true,true,true,true,true,true,true,true,true,true] [0,1,3,7,0,16,48,112,240,511] mix (by kernel_rfl) ?_;have g:=gtd g;replace E:=E.dr;have hT:=Xz hT (G.drew _);have h:=h.grow (G.drew _);have hO:=hO.grow (G.drew _);refine IF (fun h3=>?_) fun h3=>?_;rw [h3,cond_true] at he;refine AU ?_;refine CL (Wj [59] (by decide) h) ?_;rintro _ _ ⟨rfl,h,ga⟩;refine RC fun g E=>?_;have hO:=hO.gt ga rfl;refine SK [2,3,4,8,9] ?_;refine Ze (fun a ha=>?_);exact ⟨(f',_,_),ha,⟨⟨h,he,by omega,by simp;omega,_,E.g0,hO⟩,g⟩,(Zs (blkE E.g1) (Zz _)),by show f'<f'+1;omega⟩;rw [h3,cond_false] at he;refine KC [2,3,4,8,9] ?_;refine Yb (fun a ha=>?_);exact ⟨(f',_,_),ha,⟨⟨h,he,by omega,by simp;omega,_,E.g0,hO⟩,g⟩,(Zs (blkE E.g1) (Zz _)),by show f'<f'+1;omega⟩;replace h2:(!T.bad&&decide ((T.ix:Int)<(scanF s).1.length))=false:=h2
 have he:(acc,T)=prsT (scanF s).1 s.length:=by
  rw [← he]
  cases f with
  | zero=>rfl
  | succ f'=>rw [prsL,h2];rfl
 have hcn:=H.cn;rw [← he] at hcn;refine IF (fun h4=>?_) fun h4=>?_;have h4:T.bad=true:=h4;refine AU ?_;refine CL (Vw h) ?_;rintro _ _ ⟨rfl,ga⟩;refine RC fun g E=>?_;refine AS fun _ _ _ g E=>?_;refine RTN ?_;have e:parseF s=(nd0,offQ (scanF s).1 s.length T,4):=by unfold parseF;rw [e1,← he];dsimp only [cond_false];rw [h4];rfl
 rw [e];exact ⟨⟨_,rfl,Zr (t:=nd0) rfl (Wv _ _)⟩,Zyd (G.refl w) g (by omega)⟩;have h4:T.bad=false:=h4;refine AU ?_;refine CL (Jad (fileN acc) _ _ _ hO.kd hcn) ?_;rintro _ _ ⟨rfl,ga⟩;refine RC fun g E=>?_;have hO:=Uk hO;refine IF (fun h5=>?_) fun h5=>?_;have h5:decide ((50:Int)<(depthN (fileN acc):Nat))=true:=h5;refine AS fun _ _ _ g E=>?_;refine RTN ?_;have e:parseF s=(nd0,0,3):=by unfold parseF;rw [e1,← he];dsimp only [cond_false];rw [h4];dsimp only [cond_false];rw [h5];rfl
 rw [e];exact ⟨⟨_,rfl,Zr (t:=nd0) rfl (Wv _ _)⟩,Zyd (G.refl w) g (by omega)⟩;have h5:decide ((50:Int)<(depthN (fileN acc):Nat))=false:=h5;refine AS fun _ ga _ g E=>?_;have hO:=Ua hO;refine RTN ?_;have e:parseF s=(fileN acc,0,0):=by unfold parseF;rw [e1,← he];dsimp only [cond_false];rw [h4];dsimp only [cond_false];rw [h5];rfl
 rw [e];exact ⟨⟨_,rfl,Zr (t:=fileN acc) rfl hO.kd⟩,Zyd (G.refl w) g (by omega)⟩
def smp8:List UInt8:=List.append [102,117,110,99,32,102,40,97,32,105,110,116,41,32,123,32,98,32,58,61,32,97,59,32,102,117,110,99,40,41,32,123,32,98,32,61,32,49,59,32] [102,117,110,99,40,41,32,123,32,98,32,61,32,97,32,125,40,41,32,125,40,41,32,125,59,32,102,117,110,99,32,109,97,105,110,40,41,32,123,32,125]
theorem s8_tk:((scanF smp8).1.all fun t=>!decide (t.kind=2) || decide (t.text=[49]))=true:=by decide +kernel
theorem s8_ln:(scanF smp8).1.length≤100000:=by decide +kernel
theorem s8_cn:count (fileN (prsT (scanF smp8).1 smp8.length).1)≤1000000:=by decide +kernel
def p8:Nd:=(parseF smp8).1
def l8:Nd:=lT (fnsT p8)
theorem s8_ct:count p8≤250:=by decide +kernel
theorem Xuh:(fnsT p8).length=4:=by decide +kernel
theorem s8_v:locP (Zb l8 0)=[⟨[97],⟨1,[]⟩,true,true⟩,⟨[98],⟨1,[]⟩,false,true⟩]:=by kernel_rfl
theorem s8_c:capT (Zb l8 1)=[(1,1),(1,0)]:=by kernel_rfl
theorem s8_d:capT (Zb l8 2)=[(2,1),(2,0)]:=by kernel_rfl
theorem s8_t:(litN (Zb l8 0)).length=2:=by decide +kernel
theorem ps8:PsOk smp8:=⟨fun t ht hk=>by
 have h:=List.all_eq_true.1 s8_tk t ht;rw [hk] at h;have h:t.text=[49]:=by simpa using h
 rw [h];exact ⟨fun c hc=>by rw [List.mem_singleton.1 hc];decide,by simp,by simp⟩,s8_ln,s8_cn⟩
def slB:Value→Option Addr | .slice a _ _=>a|_=>none
def slC:Value→Nat | .slice _ _ c=>c|_=>0
theorem kd_sl{w:World}{D:Nat→Prop}{ks:List Nd}{v:Value}(h:Kd w D ks v):v = .slice (slB v) ks.length (slC v):=by
 obtain ⟨p,c,rfl,_⟩:=h;rfl
theorem fn8{p:Nd}(len:(fnsT p).length=4){i:Nat}(h:i<4):FnT (Zb (lT (fnsT p)) i):=by
 have hl:i<(lT (fnsT p)).kids.length:=by show i<(fnsT p).length;rw [len];exact h
 rw [Wc hl];exact Vkd (List.getElem_mem hl)
set_option maxHeartbeats 4000000 in
theorem Yhf{p:Nd}{xa xb:Int}(K:∀ w,Ret PP Wxc #[Str smp8] w fun r w'=>(∃ u,r = .tuple #[u,.int .i64 xa,.int .i64 xb]∧RetN p w.heap.size u w')∧G w w')(ct:count p≤250)(len:(fnsT p).length=4)
 (v8:locP (Zb (lT (fnsT p)) 0)=[⟨[97],⟨1,[]⟩,true,true⟩,⟨[98],⟨1,[]⟩,false,true⟩]) (c8:capT (Zb (lT (fnsT p)) 1)=[(1,1),(1,0)]) (d8:capT (Zb (lT (fnsT p)) 2)=[(2,1),(2,0)]) (t8:(litN (Zb (lT (fnsT p)) 0)).length=2)
 (w:World) (hL:Laid w) (hb3:4≤w.heap.size) (hT:LaidT w):Ret PP Wsc #[] w fun r w'=>r = .bool true∧G w w':=by
 have hcr:count (refCheck p).1≤1000000:=by have:=Ycf p;omega
 have f0:=fn8 len (i:=0) (by decide);have f1:=fn8 len (i:=1) (by decide);have f2:=fn8 len (i:=2) (by decide);obtain ⟨L,hLe⟩:∃ L,L=lT (fnsT p):=⟨_,rfl⟩;have hLk:L.kids=fnsT p:=by rw [hLe];rfl
 rw [← hLe] at v8 c8 d8 t8 f0 f1 f2;have g:=G.refl w;refine Zca (m:=93) Xbd O O [] (Zo _) ?_;refine AU ?_;refine CL (K _) ?_;rintro v9 w9 ⟨⟨u9,rfl,p9,c9,rfl,hk9⟩,g9⟩;refine ⟨fun _=>g9,?_⟩;have g:=g.trans g9;have hk9:Kd w9 (fun k=>k<w9.heap.size) p.kids (.slice p9 p.kids.length c9):=Kd.mono hk9 fun k _ h=>h;refine AM fun _ _ N1 _ g E=>?_;have hk9:=hk9.grow (N1.g);refine AS fun _ ga _ g E=>?_;have hk9:=hk9.keep ga (fun k hk _ he=>by injection he with he;have hk:k<w9.heap.size:=hk;have:=N1.at_;omega);refine AU ?_;refine CL (Uca p _ _ _ hk9 (by omega) (fun _=>hcr)) ?_;rintro v14 w14 ⟨hk14,g14⟩;refine ⟨fun _=>g14,?_⟩;have g:=g.trans g14;obtain ⟨p14,c14,rfl,_⟩:=id hk14;obtain ⟨hpe,p0,c0,hc0,hq0⟩:=Yl (t:=L) (show Kd w14 _ L.kids (.slice p14 L.kids.length c14) by rw [hLk];exact hk14) (i:=0) (by rw [hLk,len];decide);obtain ⟨_,p1,c1,hc1,hq1⟩:=Yl (t:=L) (show Kd w14 _ L.kids (.slice p14 L.kids.length c14) by rw [hLk];exact hk14) (i:=1) (by rw [hLk,len];decide);obtain ⟨_,p2,c2,hc2,hq2⟩:=Yl (t:=L) (show Kd w14 _ L.kids (.slice p14 L.kids.length c14) by rw [hLk];exact hk14) (i:=2) (by rw [hLk,len];decide);replace E:=E.grow g14;refine Yr O (Ze (kq (Zi (Zi (Zk (Zp O (Xha Zc O (Yyd O O (Ze (kq (Wn O (fun h1=>?_) (fun h1=>?_))))))))))))
 ·exfalso;simp [len] at h1
  done
 refine Yb (kq (Zi (Zk (Zp O (Zq O (fun _=>Xb Zc (Zd O) Xg (fun _=>by rw [len];decide) (fun _=>hpe)) (Ve Zh O O hc0 (CL (Vfd (Zb L 0) _ _ _ (hL.grow g) (by have:=g.size;omega) (hT.grow g) hq0 f0.ct f0.kid) ?_)))))));rintro v21 w21 ⟨hU21,g21⟩;refine ⟨fun _=>g21,?_⟩;have g:=g.trans g21;rw [v8] at hU21;obtain ⟨p21,c21,rfl⟩:=hU21.slice;replace E:=E.grow g21;have hc0:=hc0.grow (g21);have hq0:=hq0.grow (g21);have hc1:=hc1.grow (g21);have hq1:=hq1.grow (g21);have hc2:=hc2.grow (g21);have hq2:=hq2.grow (g21);refine Yr O (Ze (kq (Zi (Zk (Zp O (Zq O (fun _=>Xb Zc (Zd O) Xg (fun _=>by rw [len];decide) (fun _=>hpe)) (Ve Zh O O hc1 (CL (Zoc (Zb L 1) _ _ _ hq1 f1.ct) ?_))))))));rintro v25 w25 ⟨hU25,g25⟩;refine ⟨fun _=>g25,?_⟩;have g:=g.trans g25;rw [c8] at hU25;obtain ⟨p25,c25,rfl⟩:=hU25.slice;replace E:=E.grow g25;have hc0:=hc0.grow (g25);have hq0:=hq0.grow (g25);have hq1:=hq1.grow (g25);have hc2:=hc2.grow (g25);have hq2:=hq2.grow (g25);have hU21:=hU21.grow (g25);refine Yr O (Ze (kq (Zi (Zk (Zp O (Zq O (fun _=>Xb Zc (Zd O) Xg (fun _=>by rw [len];decide) (fun _=>hpe)) (Ve Zh O O hc2 (CL (Zoc (Zb L 2) _ _ _ hq2 f2.ct) ?_))))))));rintro v29 w29 ⟨hU29,g29⟩;refine ⟨fun _=>g29,?_⟩;have g:=g.trans g29;rw [d8] at hU29;obtain ⟨p29,c29,rfl⟩:=hU29.slice;replace E:=E.grow g29;have hc0:=hc0.grow (g29);have hq0:=hq0.grow (g29);have hq1:=hq1.grow (g29);have hq2:=hq2.grow (g29);have hU21:=hU21.grow (g29);have hU25:=hU25.grow (g29);refine Yr O (Ze (kq (Zi (Zk (?_)))));obtain ⟨ha0,hb0⟩:=hU21.1.opt Ux (i:=0) (by simp);obtain ⟨_,hb1⟩:=hU21.1.opt Ux (i:=1) (by simp);obtain ⟨ha2,hb2⟩:=hU25.1.opt Uz (i:=0) (by simp);obtain ⟨_,hb4⟩:=hU25.1.opt Uz (i:=1) (by simp)
 obtain ⟨ha5,hb5⟩:=hU29.1.opt Uz (i:=0) (by simp);refine Zp O (Xha Wb O (Zya O O (Zp O (Zj O O O (fun _=>Zl (Zd O)) (Zj O O O (fun _=>Xb Wb (Zm O id) Xg (fun _=>by simp) (fun _=>ha0)) (Yk O O O (Zy Qca (Zm O id) O (fun _=>hb0)) (Zj O O O (fun _=>Uv [_,_] Wl O Vi (Xn Xg (Vk)) O) (Zj O O O (fun _=>Uv [_,_,_,_,_] Uq O Waa (Xn Xg (Xn (Zm O id) (Xn Xg (Xn Xg (Vk))))) O) (Zj O O O (fun _=>Vag Vlc (Zm O id) (Zm O id) O) (Zq O (fun _=>Yd (Zd O) (Zm O id)) (Zp O (Zj O O O (fun _=>Zl (Zd O)) (Zj O O O (fun _=>Xb Wb (Zm O id) Xg (fun _=>by simp) (fun _=>ha0)) (Zj O O O (fun _=>Zn Xqa (Zm O id)) (Yk O O O (Zw Jcb (Zm O id) (fun _=>hb1.one (i:=4) O)) (?_))))))))))))))));refine Zq O (fun _=>Yd (Zd O) (Zm O id)) (Zp O (Zj O O O (fun _=>Zl (Zd O)) (Zj O O O (fun _=>Xb Wb (Zm O id) Xg (fun _=>by simp) (fun _=>ha0)) (Zj O O O (fun _=>Zn Jfb (Zm O id)) (Yk O O O (Zw Jcb (Zm O id) (fun _=>hb1.one (i:=3) O)) (Zj O O O (fun _=>Xmc (Zm O id)) (Zq O (fun _=>Yd (Zd O) (Zm O id)) (Zp O (Zj O O O (fun _=>Zl (Zd O)) (Zj O O O (fun _=>Vna Wo (Zm O id)) (Zj O O O (fun _=>Zpa (Zm O id) Xg) (Zq O (fun _=>Yd (Zd O) (Zm O id)) (Zp O (Zj O O O (fun _=>Zl (Zd O)) (Zj O O O (fun _=>Xb Wo (Zm O id) Xg (fun _=>by simp) (fun _=>ha2)) (?_))))))))))))))))
 refine Yk O O O (Zy Zva (Zm O id) O (fun _=>hb2)) (Zj O O O (fun _=>Uv [_,_] Vj O Qz (Xn Xg (Xn Xg (Vk))) O) (Zj O O O (fun _=>Zub Yma (Zm O id) (Zm O id) O) (Zq O (fun _=>Yd (Zd O) (Zm O id)) (Zp O (Zj O O O (fun _=>Zl (Zd O)) (Zj O O O (fun _=>Xb Wo (Zm O id) Xg (fun _=>by simp) (fun _=>ha2)) (Yk O O O (Zy Zva (Zm O id) O (fun _=>hb4)) (Zj O O O (fun _=>Uv [_,_] Vj O Qz (Xn Xg (Vk)) O) (Zj O O O (fun _=>Zub Yma (Zm O id) (Zm O id) O) (Zq O (fun _=>Yd (Zd O) (Zm O id)) (Zp O (Zj O O O (fun _=>Zl (Zd O)) (Zj O O O (fun _=>Vna Wo (Zm O id)) (Zj O O O (fun _=>Zpa (Zm O id) Xg) (Zq O (fun _=>Yd (Zd O) (Zm O id)) (?_))))))))))))))));refine Zp O (Zj O O O (fun _=>Zl (Zd O)) (Zj O O O (fun _=>Xb Wo (Zm O id) Xg (fun _=>by simp) (fun _=>ha5)) (Yk O O O (Zy Zva (Zm O id) O (fun _=>hb5)) (Zj O O O (fun _=>Uv [_,_] Vj O Qz (Xn Xg (Xn Xg (Vk))) O) (Zj O O O (fun _=>Zub Yma (Zm O id) (Zm O id) O) (Zq O (fun _=>Yd (Zd O) (Zm O id)) (Zp O (Zj O O O (fun _=>Zl (Zd O)) (Zj O O O (fun _=>Xb Zc (Zm O id) Xg (fun _=>by rw [len];decide) (fun _=>hpe)) (Yk O O O (Zy Zh (Zm O id) O (fun _=>hc0)) (Yxd O O O (fun _=>Yi Zyc Vc (Ym (Zm O id) (Xh)) O) (fun hc=>Xhf (Zb L 0) _ _ _ hq0 f0.ct) ?_)))))))))));intro v89 w89 hv89 g89;have g:=g.trans g89;replace E:=E.grow g89;have hq0:=hq0.grow (g89);have hq1:=hq1.grow (g89);have hq2:=hq2.grow (g89);refine Zj O O O (fun _=>Vna Zc (Ev.to (Zm O id) fun hc=>kd_sl (hv89 hc))) (Zj O O O (fun _=>Zpa (Zm O id) Xg) (Zq O (fun _=>Yd (Zd O) (Zm O id)) (Yr O (Vf [(0,_,_)] (Za O (Zo _)) (Ze (kq (Xe (Up O O ?_))))))));refine ⟨Wfh ?_,g⟩;rw [f0.fn];simp [t8]
theorem Zsc(w:World)(hL:Laid w)(hb3:4≤w.heap.size)(hT:LaidT w):Ret PP Wsc #[] w fun r w'=>r = .bool true∧G w w' :=
 Yhf (fun w=>Uvf smp8 w ps8) s8_ct Xuh s8_v s8_c s8_d s8_t w hL hb3 hT
theorem Jmg(t:Nd)(v:Value)(D:Nat→Prop)(w:World)(hk:Kd w D t.kids v)(hc:count t≤1000000):Ret PP Jlc #[ndV t v] w fun r w'=>Kd w' (fun b=>D b∨w.heap.size≤b) (bif fnB t then litN t else []) r∧G w w':=by
 have g:=G.refl w;refine WK 8 [0] Wwc ?_;refine BM fun _ _ _ _ g E=>?_;refine AU ?_;refine CP (Jja t v _) (fun w4 g4=>?_);have g:=g.trans g4;replace E:=E.grow g4;refine IF (fun h1=>?_) fun h1=>?_;replace h1:fnB t=false:=by simpa using h1
 refine RTN ?_;rw [h1];exact ⟨Qta _ _,g⟩;replace h1:fnB t=true:=by simpa using h1
 refine AU ?_;refine CL (Zhf t v D _ (hk.grow g) hc) ?_;rintro v7 w7 ⟨⟨hr7,_⟩,g7⟩;refine ⟨fun _=>g7,?_⟩;have hge:=g.size;have g:=g.trans g7;have hrr:=hr7.mono (D':=fun b=>D b∨w.heap.size≤b) (fun b hb _=>hb.imp id fun q=>Nat.le_trans hge q);replace E:=E.grow g7;refine RTN ?_;rw [h1];exact ⟨hrr,g⟩
theorem Wqg{t:Nd}:∀ k∈ownN t,count k≤count t:=fun k hk=>by
 rw [← Vyc t 0] at hk;obtain ⟨x,hx,e⟩:=List.mem_map.1 hk;have:=Qpc x (List.mem_filter.1 hx).1;rw [← e];exact this
theorem Jng{t:Nd}(h:FnT t):∀ k∈ownN t,dclD k≠[]→0<k.kids.length:=fun k hk=>by
 rw [← Vyc t 0] at hk;obtain ⟨x,hx,e⟩:=List.mem_map.1 hk;rw [← e];exact h.kid x (List.mem_filter.1 hx).1
theorem Wrg(t:Nd):(locR t).length≤count t:=by
 unfold locR;have h1:=Xzb t;have h2:=Xce (dirT t) (ownN t) _ (Nat.le_refl _);rw [List.take_length] at h2;cases fnB t;exact Nat.zero_le _;rw [cond_true];omega
theorem Xvh{t:Nd}:∀ k∈(bif fnB t then litN t else []),count k≤count t:=fun k hk=>by
 cases h:fnB t;rw [h] at hk;cases hk;rw [h,cond_true,← Vqe t 0] at hk;obtain ⟨x,hx,e⟩:=List.mem_map.1 hk;rw [← e];exact Qpc x (List.mem_filter.1 hx).1
theorem Jog{t:Nd}:(bif fnB t then litN t else []).length≤count t:=by
 have:=Wsd t;cases fnB t;exact Nat.zero_le _;rw [cond_true];omega
theorem Vtd(t:Nd):count t≤250→count (refCheck t).1≤1000000:=fun h=>by have:=Ycf t;omega
theorem Upc(t:Nd):(fnsT t).length≤1000000:=by
 unfold fnsT;cases h1:decide ((250:Int)<(count t:Nat));cases decide ((refCheck t).2.2=0);exact Nat.zero_le _;have h:=of_decide_eq_false h1;have h2:=Vtd t (by omega);have h3:=Jia (refCheck t).1;have h4:(allT (refCheck t).1).length≤(listN (refCheck t).1).length:=List.length_filter_le _ _;rw [cond_false,cond_true];omega;exact Nat.zero_le _
theorem Qpe(t:Nd)(v:Value)(D:Nat→Prop)(w:World)(hL:Laid w)(hb3:4≤w.heap.size)(hT:LaidT w)(hk:Kd w D t.kids v)(hc:count t≤1048576):Ret PP Qfb #[ndV t v] w fun r w'=>r = .bool true∧G w w':=by
 have g:=G.refl w;refine WK 28 [0] Wmb ?_;refine BM fun b1 _ _ _ g E=>?_;refine AU ?_;refine Yga O (Yi Jaa Vc (aq0) O) (Zsc _ (hL.grow g) (by have:=g.size;omega) (hT.grow g)) ?_;rintro _ _ ⟨rfl,ga⟩;refine RC fun g E=>?_;refine IF (fun h1=>?_) fun h1=>?_
 ·exfalso;cases h1
  done
 refine AU ?_;refine CL (Uca t v D _ (hk.grow g) hc (Vtd t)) ?_;rintro v8 w8 ⟨hkF,g8⟩;refine ⟨fun _=>g8,?_⟩;obtain ⟨p8,c8,rfl,_⟩:=id hkF;have g:=g.trans g8;replace E:=E.grow g8;refine AU ?_;have hnd1:=E.1;refine Xo (fun (i:Nat) u1=>(i≤(fnsT t).length∧Kd u1 (fun _=>True) (fnsT t) (.slice p8 (fnsT t).length c8))∧G w u1) _ [(3,True,_)] (fun (i:Nat)=>[(4,True,.int .i64 i)]) (fun (i:Nat)=>(fnsT t).length-i) (0) ⟨⟨Nat.zero_le _,hkF⟩,g⟩ (Zs (blkE E.g0) (Zz _)) (Za O (Za O (Zo _))) ?_;clear E;rintro i u1 ⟨hI1,gl1⟩ ⟨B1,_⟩;replace B1:Blk _ _ _ _:=B1;have g:=gl1;clear hkF;obtain ⟨hi,hkF⟩:=hI1;have E:=Jo (L:=[(b1,_,_)]) hnd1 ⟨B1,trivial⟩ rfl;refine IF (fun h2=>?_) fun h2=>?_
 ·replace h2:i<(fnsT t).length:=by simp only [decide_eq_true_eq] at h2;omega
  obtain ⟨hpe,p',c',hcell,hkid⟩:=hkF.opt1 h2;have hF:=Vkd (List.getElem_mem h2);have hfl:=Upc t;refine AU ?_;skip;refine Yx [3,3,3,0,1,1,3,3,3,0,1,1,3] [true,true,true,true,true,true,false,false,false,false,true,true,true] [0,0,3,7,15,31,0,0,192,448,1023,2047,4095] mix (by kernel_rfl) ?_;have g:=gdr g;replace E:=E.dr;have hkF:=hkF.grow (G.drew _);have hcell:=hcell.grow (G.drew _);have hkid:=hkid.grow (G.drew _);have hcz:=hcell;refine AU ?_;refine CL (Wkd (fnsT t)[i] _ _ _ hkid (by have:=Wz (fnsT t)[i];have:=hF.ct;omega) hF.ct) ?_;rintro _ _ ⟨⟨p2,c2,rfl,hkB⟩,ga⟩;refine RC fun g E=>?_;have hkF:=Uk hkF;have hkid:=Uk hkid;refine CL (Vfd (fnsT t)[i] _ _ _ (hL.grow g) (by have:=g.size;omega) (hT.grow g) hkB hF.ct hF.kid) ?_;rintro v20 w20 ⟨hUA,g20⟩;refine ⟨fun _=>g20,?_⟩;rw [Yyg] at hUA;have g:=g.trans g20;replace E:=E.grow g20;have hkF:=hkF.grow (g20);have hkid:=hkid.grow (g20);refine Zp O (Zp O (Ji Zc O O (by omega) hpe ?_));refine Wxa O (Zy Zh (Zd O) O (fun _=>hcz)) (CL (Zsf (fnsT t)[i] _ _ _ hkid hF.ct (Jng hF) (fun k hk=>Nat.le_trans (Wqg k hk) hF.ct)) ?_);rintro _ _ ⟨hUB,ga⟩;refine RC fun g E=>?_;have hkF:=Uk hkF;have hUA:=Uk hUA;refine CP (Ujf (locR (fnsT t)[i]) _ _ _ hUA.1 hUB.1 (Nat.le_trans (Wrg _) hF.ct)) (fun w26 g26=>?_);have g:=g.trans g26;replace E:=E.grow g26;have hkF:=hkF.grow (g26);refine IF (fun h3=>?_) fun h3=>?_
  ·exfalso;cases h3
   done
  refine AU ?_;refine SK [4,3] ?_;refine Ze (fun a ha=>?_);exact ⟨i+1,ha,⟨⟨h2,hkF⟩,g⟩,(Zs (blkE E.g0) (Zz _)),by omega⟩
 skip;refine RTN ?_;exact ⟨rfl,g⟩
theorem Uwf(t:Nd)(v:Value)(D:Nat→Prop)(w:World)(hL:Laid w)(hb3:4≤w.heap.size)(hT:LaidT w)(hk:Kd w D t.kids v)(hc:count t≤1048576):Ret PP Wnb #[ndV t v] w fun r w'=>r = .bool true∧G w w':=by
 have g:=G.refl w;refine WK 28 [0] Yhb ?_;refine BM fun b1 _ _ _ g E=>?_;refine AU ?_;refine Yga O (Yi Jaa Vc (aq0) O) (Zsc _ (hL.grow g) (by have:=g.size;omega) (hT.grow g)) ?_;rintro _ _ ⟨rfl,ga⟩;refine RC fun g E=>?_;refine IF (fun h1=>?_) fun h1=>?_
 ·exfalso;cases h1
  done
 refine AU ?_;refine CL (Uca t v D _ (hk.grow g) hc (Vtd t)) ?_;rintro v8 w8 ⟨hkF,g8⟩;refine ⟨fun _=>g8,?_⟩;obtain ⟨p8,c8,rfl,_⟩:=id hkF;have g:=g.trans g8;replace E:=E.grow g8;refine AU ?_;have hnd1:=E.1;refine Xo (fun (i:Nat) u1=>(i≤(fnsT t).length∧Kd u1 (fun _=>True) (fnsT t) (.slice p8 (fnsT t).length c8))∧G w u1) _ [(3,True,_)] (fun (i:Nat)=>[(4,True,.int .i64 i)]) (fun (i:Nat)=>(fnsT t).length-i) (0) ⟨⟨Nat.zero_le _,hkF⟩,g⟩ (Zs (blkE E.g0) (Zz _)) (Za O (Za O (Zo _))) ?_;clear E;rintro i u1 ⟨hI1,gl1⟩ ⟨B1,_⟩;replace B1:Blk _ _ _ _:=B1;have g:=gl1;clear hkF;obtain ⟨hi,hkF⟩:=hI1;have E:=Jo (L:=[(b1,_,_)]) hnd1 ⟨B1,trivial⟩ rfl;refine IF (fun h2=>?_) fun h2=>?_
 ·replace h2:i<(fnsT t).length:=by simp only [decide_eq_true_eq] at h2;omega
  obtain ⟨hpe,p',c',hcell,hkid⟩:=hkF.opt1 h2;have hF:=Vkd (List.getElem_mem h2);have hfl:=Upc t;refine AU ?_;skip;refine Yx [3,3,3,0,1,1,3,3,3,0,1,1,3] [true,true,true,true,true,true,false,false,false,false,true,true,true] [0,0,3,7,15,31,0,0,192,448,1023,2047,4095] mix (by kernel_rfl) ?_;have g:=gdr g;replace E:=E.dr;have hkF:=hkF.grow (G.drew _);have hcell:=hcell.grow (G.drew _);have hkid:=hkid.grow (G.drew _);have hcz:=hcell;refine AU ?_;refine CL (Wkd (fnsT t)[i] _ _ _ hkid (by have:=Wz (fnsT t)[i];have:=hF.ct;omega) hF.ct) ?_;rintro _ _ ⟨⟨p2,c2,rfl,hkB⟩,ga⟩;refine RC fun g E=>?_;have hkF:=Uk hkF;have hkid:=Uk hkid;refine CL (Zoc (fnsT t)[i] _ _ _ hkB hF.ct) ?_;rintro _ _ ⟨hUA,ga⟩;refine RC fun g E=>?_;have hkF:=Uk hkF;have hkid:=Uk hkid;refine Zp O (Zp O (Ji Zc O O (by omega) hpe ?_));refine Wxa O (Zy Zh (Zd O) O (fun _=>hcz)) (CL (Xbe (fnsT t)[i] _ _ _ hkid hF.ct) ?_);rintro _ _ ⟨hUB,ga⟩;refine RC fun g E=>?_;have hkF:=Uk hkF;have hUA:=Uk hUA;refine CP (Uif (capT (fnsT t)[i]) _ _ _ hUA.1 hUB.1 (Nat.le_trans (Ugc _) hF.ct)) (fun w26 g26=>?_);have g:=g.trans g26;replace E:=E.grow g26;have hkF:=hkF.grow (g26);refine IF (fun h3=>?_) fun h3=>?_
  ·exfalso;cases h3
   done
  refine AU ?_;refine SK [4,3] ?_;refine Ze (fun a ha=>?_);exact ⟨i+1,ha,⟨⟨h2,hkF⟩,g⟩,(Zs (blkE E.g0) (Zz _)),by omega⟩
 skip;refine RTN ?_;exact ⟨rfl,g⟩
theorem Uxf(t:Nd)(v:Value)(D:Nat→Prop)(w:World)(hL:Laid w)(hb3:4≤w.heap.size)(hT:LaidT w)(hk:Kd w D t.kids v)(hc:count t≤1048576):Ret PP Wob #[ndV t v] w fun r w'=>r = .bool true∧G w w':=by
 have g:=G.refl w;refine WK 39 [0] Yib ?_;refine BM fun b1 _ _ _ g E=>?_;refine AU ?_;refine Yga O (Yi Jaa Vc (aq0) O) (Zsc _ (hL.grow g) (by have:=g.size;omega) (hT.grow g)) ?_;rintro _ _ ⟨rfl,ga⟩;refine RC fun g E=>?_;refine IF (fun h1=>?_) fun h1=>?_
 ·exfalso;cases h1
  done
 refine AU ?_;refine CL (Uca t v D _ (hk.grow g) hc (Vtd t)) ?_;rintro v9 w9 ⟨hkF,g9⟩;refine ⟨fun _=>g9,?_⟩;obtain ⟨p8,c8,rfl,_⟩:=id hkF;have g:=g.trans g9;replace E:=E.grow g9;refine AU ?_;have hnd1:=E.1;refine Xo (fun (i:Nat) u1=>(i≤(fnsT t).length∧Kd u1 (fun _=>True) (fnsT t) (.slice p8 (fnsT t).length c8))∧G w u1) _ [(3,True,_)] (fun (i:Nat)=>[(4,True,.int .i64 i)]) (fun (i:Nat)=>(fnsT t).length-i) (0) ⟨⟨Nat.zero_le _,hkF⟩,g⟩ (Zs (blkE E.g0) (Zz _)) (Za O (Za O (Zo _))) ?_;clear E;rintro i u1 ⟨hI1,gl1⟩ ⟨B1,_⟩;replace B1:Blk _ _ _ _:=B1;have g:=gl1;clear hkF;obtain ⟨hi,hkF⟩:=hI1;have E:=Jo (L:=[(b1,_,_)]) hnd1 ⟨B1,trivial⟩ rfl;refine IF (fun h2=>?_) fun h2=>?_
 ·replace h2:i<(fnsT t).length:=by simp only [decide_eq_true_eq] at h2;omega
  have hkF:Kd u1 (fun k=>k<u1.heap.size) (fnsT t) (.slice p8 (fnsT t).length c8):=Kd.mono hkF fun k _ h=>h;have hp8:pb p8<u1.heap.size:=Wca (t:=.mk 0 [] 0 0 (fnsT t) ty0 0 0) hkF h2;obtain ⟨hpe,p',c',hcell,hkid⟩:=hkF.opt1 h2;have hF:=Vkd (List.getElem_mem h2);have hfl:=Upc t;refine AU ?_;refine CL (Wkd (fnsT t)[i] _ _ _ hkid (by have:=Wz (fnsT t)[i];have:=hF.ct;omega) hF.ct) ?_;rintro v20 w20 ⟨⟨p2,c2,rfl,hkB⟩,g20⟩;refine ⟨fun _=>g20,?_⟩;have hkB:Kd w20 (fun k=>k<w20.heap.size) (fnsT t)[i].kids (.slice p2 (fnsT t)[i].kids.length c2):=Kd.mono hkB fun k _ h=>h;have g:=g.trans g20;replace E:=E.grow g20;have hkF:=hkF.grow (g20);have hcell:=hcell.grow (g20);have hkid:=hkid.grow (g20);refine AN fun _ _ N5 _ g E=>?_;have hkF:=hkF.grow (N5.g);have hcell:=hcell.grow (N5.g);have hkid:=hkid.grow (N5.g);have hkB:=hkB.grow (N5.g);refine AS fun _ ga _ g E=>?_;have hkF:=hkF.keep ga (fun k hk _ he=>by injection he with he;have hk:k<u1.heap.size:=hk;have:=g20.size;have:=N5.at_;omega);have hkid:=hkid.keep ga (fun k hk _ he=>by injection he with he;have hk:k<u1.heap.size:=hk;have:=g20.size;have:=N5.at_;omega);have hkB:=hkB.keep ga (fun k hk _ he=>by injection he with he;have hk:k<w20.heap.size:=hk;have:=N5.at_;omega);have hcell:=Vz hcell ga (by have:=hp8;have:=g20.size;have:=N5.at_;omega);refine AU ?_;skip;refine Yx [0,1,3,3,3,0,1,1,3,3,0,3,3,3,0,1,3,3] [true,true,false,false,false,false,true,true,true,true,true,true,true,true,true,true,true,true] [0,1,0,0,12,28,63,127,255,511,1023,1023,1023,7167,15359,32767,65535,131071] mix (by kernel_rfl) ?_;have g:=gdr g;replace E:=E.dr;have hkF:=hkF.grow (G.drew _)
  have hcell:=hcell.grow (G.drew _);have hkid:=hkid.grow (G.drew _);have hkB:=hkB.grow (G.drew _);have hcz:=hcell;refine AU ?_;refine CL (Xhf (fnsT t)[i] _ _ _ hkB hF.ct) ?_;rintro _ _ ⟨hUA,ga⟩;refine RC fun g E=>?_;have hkF:=Uk hkF;have hcell:=Uk hcell;have hkid:=Uk hkid;have hkB:=Uk hkB;refine Zp O (Zp O (Ji Zc O O (by omega) hpe ?_));refine Wxa O (Zy Zh (Zd O) O (fun _=>hcz)) (CL (Jmg (fnsT t)[i] _ _ _ hkid hF.ct) ?_);rintro _ _ ⟨hUB,ga⟩;refine RC fun g E=>?_;have hkF:=Uk hkF;have hcell:=Uk hcell;have hkid:=Uk hkid;have hkB:=Uk hkB;have hUA:=Uk hUA;refine CP (Ukf (bif fnB (fnsT t)[i] then litN (fnsT t)[i] else []) _ _ _ _ _ hUA hUB (Nat.le_trans Jog hF.ct) (fun k hk=>Nat.le_trans (Xvh k hk) hF.ct)) (fun w28 g28=>?_);have g:=g.trans g28;replace E:=E.grow g28;have hkF:=hkF.grow (g28);have hcell:=hcell.grow (g28);have hkid:=hkid.grow (g28);have hkB:=hkB.grow (g28);refine AU ?_;refine CG (fun hc=>(show Ret PP _ _ w28 (fun r w'=>r = .bool true∧G w28 w') from by have q:=Vne _ _ _ _ _ _ w28 hkB hkid hF.ct;rw [Vme] at q;exact q)) (fun w36 g36=>?_);have g:=g.trans g36;replace E:=E.grow g36;have hkF:=hkF.grow (g36);refine IF (fun h3=>?_) fun h3=>?_
  ·exfalso;cases h3
   done
  refine AU ?_;refine SK [4,3] ?_;refine Ze (fun a ha=>?_);exact ⟨i+1,ha,⟨⟨h2,hkF.mono fun _ _ _=>trivial⟩,g⟩,(Zs (blkE E.g1) (Zz _)),by omega⟩
 skip;refine RTN ?_;exact ⟨rfl,g⟩
theorem Xme{x:Int}(h : -9223372036854775808≤x∧x≤9223372036854775807):IntKind.i64.wrap x=x:=Ypd h
theorem Jpg:∀ (t:Nd) (v:Int),∀ y∈visN t v,∀ z∈visN y.1 (upL y.1 y.2),z∈visN t v:=by
 refine Nd.ind fun t ih v y hy z hz=>?_;rw [Xma] at hy ⊢;obtain ⟨k,hk,hy⟩:=List.mem_flatMap.1 hy;refine List.mem_flatMap.2 ⟨k,hk,List.mem_cons_of_mem _ ?_⟩;rcases List.mem_cons.1 hy with e|hy;subst e;exact hz;exact ih k hk _ y hy z hz
theorem Jqg{t d:Nd}(hd:d∈dirN t){x:Nd×Int}(hx:x∈visN d 0):(x.1,x.2+1)∈visN t 0:=by
 obtain ⟨y,h1,h2,h3,e⟩:=dirN_mem.1 hd;have h0:=Ype t 0 y h1;have hy:y.2=0:=by omega
 refine Jpg t 0 y h1 _ ?_;unfold upL;rw [Weh h3,cond_true,hy,Zff 1 y.1 0];exact List.mem_map.2 ⟨x,by rw [e];exact hx,rfl⟩
theorem Qqe{t d:Nd}(h:d∈dirT t):d∈dirN t:=by
 unfold dirT at h;cases hf:fnB t;rw [hf] at h;cases h;rw [hf] at h;exact h
theorem Zhh{t:Nd}(h:FnT t){x:Nd×Int}(hx:x∈visN t 0):0≤x.2∧x.2≤1000000:=by
 have h1:=Ype t 0 x hx;have h2:=Udg t 0 x hx;have:=h.ct;omega
theorem Jrg{t:Nd}(h:FnT t){x:Nd×Int}(hx:x∈visN t 0)(hu:useB x.1=true)(hl:x.2<x.1.up):capC x∈capT t∧capC x=(x.1.up-x.2,x.1.num):=by
 obtain ⟨n,m,e,q1,q2,q3,q4,q5,q6⟩:=h.use x hx hu;obtain ⟨h1,h2⟩:=Zhh h hx;have hw:capC x=(x.1.up-x.2,x.1.num):=by unfold capC;rw [Xme (by omega)]
 refine ⟨capT_mem.2 ⟨?_,x,hx,hu,rfl,?_⟩,hw⟩;have hf:(decide (t.kind=4) || decide (t.kind=38))=true:=h.fn;simp only [Bool.or_eq_true,decide_eq_true_eq] at hf;rcases hf with e4|e38;have:=q5 e4;omega;exact e38;rw [hw];show 0<x.1.up-x.2;omega
theorem Jsg{t d:Nd}(h:FnT t)(hd:d∈dirT t){c:Int×Int}(hc:c∈capT d):(1<c.1→(c.1-1,c.2)∈capT t∧IntKind.i64.wrap (c.1-1)=c.1-1)∧(c.1=1→∃ m:Nat,c.2=m∧m<(locL t).length):=by
 obtain ⟨_,x,hx,hu,e,h0⟩:=capT_mem.1 hc;have hv:=Jqg (Qqe hd) hx;obtain ⟨n,m,k,q1,q2,q3,q4,q5,q6⟩:=h.use _ hv hu;obtain ⟨h1,h2⟩:=Zhh h hv;have q1:x.1.up=n:=q1;have q2:x.1.num=m:=q2;have q3:x.2+1=k:=q3;have h1:0≤x.2+1:=h1;have h2:x.2+1≤1000000:=h2;have hw:capC x=(x.1.up-x.2,x.1.num):=by unfold capC;rw [Xme (by omega)]
 rw [hw] at e;subst e;refine ⟨fun hl=>?_,fun hl=>?_⟩;have hl:1<x.1.up-x.2:=hl;obtain ⟨r1,r2⟩:=Jrg h hv hu (show x.2+1<x.1.up by omega);rw [r2] at r1;have e1:x.1.up-(x.2+1)=x.1.up-x.2-1:=by omega
 refine ⟨?_,Xme (by show _≤x.1.up-x.2-1∧x.1.up-x.2-1≤_;omega)⟩;show (x.1.up-x.2-1,x.1.num)∈_;rw [← e1];exact r1;have hl:x.1.up-x.2=1:=hl;obtain ⟨d,hd,_⟩:=q6 (by omega);exact ⟨m,q2,(List.getElem?_eq_some_iff.1 hd).1⟩
theorem Wsg(t:Nd):(dirT t).length≤count t:=by
 have:=Xzb t;unfold dirT;cases fnB t;exact Nat.zero_le _;rw [cond_true];have:=List.length_filter_le (fun k:Nd=>decide (k.kind=38)) (ownN t);show ((ownN t).filter _).length≤_;omega
theorem Jtg{t d:Nd}(h:d∈dirT t):count d≤count t:=Wqg d (List.mem_filter.1 (Qqe h)).1
theorem Uyf(t:Nd)(v:Value)(D:Nat→Prop)(w:World)(hL:Laid w)(hb3:4≤w.heap.size)(hT:LaidT w)(hk:Kd w D t.kids v)(hc:count t≤1048576):Ret PP Vvb #[ndV t v] w fun r w'=>r = .bool true∧G w w':=by
 have g:=G.refl w;refine WK 70 [0] Ywb ?_;refine BM fun b1 _ _ _ g E=>?_;refine AU ?_;refine Yga O (Yi Jaa Vc (aq0) O) (Zsc _ (hL.grow g) (by have:=g.size;omega) (hT.grow g)) ?_;rintro _ _ ⟨rfl,ga⟩;refine RC fun g E=>?_;refine IF (fun h1=>?_) fun h1=>?_
 ·exfalso;cases h1
  done
 refine AU ?_;refine CL (Uca t v D _ (hk.grow g) hc (Vtd t)) ?_;rintro v13 w13 ⟨hkF,g13⟩;refine ⟨fun _=>g13,?_⟩;obtain ⟨p8,c8,rfl,_⟩:=id hkF;have g:=g.trans g13;replace E:=E.grow g13;refine AU ?_;have hnd1:=E.1;refine Xo (fun (i:Nat) u1=>(i≤(fnsT t).length∧Kd u1 (fun _=>True) (fnsT t) (.slice p8 (fnsT t).length c8))∧G w u1) _ [(3,True,_)] (fun (i:Nat)=>[(4,True,.int .i64 i)]) (fun (i:Nat)=>(fnsT t).length-i) (0) ⟨⟨Nat.zero_le _,hkF⟩,g⟩ (Zs (blkE E.g0) (Zz _)) (Za O (Za O (Zo _))) ?_;clear E;rintro i u1 ⟨hI1,gl1⟩ ⟨B1,_⟩;replace B1:Blk _ _ _ _:=B1;have g:=gl1;clear hkF;obtain ⟨hi,hkF⟩:=hI1;have E:=Jo (L:=[(b1,_,_)]) hnd1 ⟨B1,trivial⟩ rfl;refine IF (fun h2=>?_) fun h2=>?_
 ·replace h2:i<(fnsT t).length:=by simp only [decide_eq_true_eq] at h2;omega
  obtain ⟨hpe,p',c',hcell,hkid⟩:=hkF.opt1 h2;have hF:=Vkd (List.getElem_mem h2);have hfl:=Upc t;refine AU ?_;refine CL (Zoc (fnsT t)[i] _ _ _ hkid hF.ct) ?_;rintro v24 w24 ⟨hUA,g24⟩;refine ⟨fun _=>g24,?_⟩;obtain ⟨cs,hcs⟩:∃ cs,cs=capT (fnsT t)[i]:=⟨_,rfl⟩;rw [← hcs] at hUA;have hcla:cs.length≤count (fnsT t)[i]:=by rw [hcs];exact Ugc _
  obtain ⟨pA,cA,rfl⟩:=hUA.slice;have g:=g.trans g24;replace E:=E.grow g24;have hkF:=hkF.grow (g24);have hcell:=hcell.grow (g24);have hkid:=hkid.grow (g24);refine AU ?_;refine CL (Wud (fnsT t)[i] _ _ _ hkid hF.ct) ?_;rintro v29 w29 ⟨hkB,g29⟩;refine ⟨fun _=>g29,?_⟩;obtain ⟨pB,cB,rfl,_⟩:=id hkB;have g:=g.trans g29;have hdl:=Wsg (fnsT t)[i];have hct:=hF.ct;replace E:=E.grow g29;have hkF:=hkF.grow (g29);have hUA:=hUA.grow (g29);refine AU ?_;have hnd2:=E.1;refine Xo (fun (j:Nat) u2=>(j≤(dirT (fnsT t)[i]).length∧Kd u2 (fun _=>True) (fnsT t) (.slice p8 (fnsT t).length c8)∧RetF capCells u2 (cs) (.slice pA (cs).length cA)∧Kd u2 (fun b=>True∨w24.heap.size≤b) (dirT (fnsT t)[i]) (.slice pB (dirT (fnsT t)[i]).length cB))∧G w u2) _ [(3,True,_),(4,True,_),(5,True,_),(6,True,_)] (fun (j:Nat)=>[(7,True,.int .i64 j)]) (fun (j:Nat)=>(dirT (fnsT t)[i]).length-j) (0) ⟨⟨Nat.zero_le _,hkF,hUA,hkB⟩,g⟩ (Zs (blkE E.g0) (Zz _)) (Za O (Za O (Za O (Za O (Za O (Zo _)))))) ?_;clear E;rintro j u2 ⟨hI2,gl2⟩ ⟨B1,_⟩;replace B1:Blk _ _ _ _:=B1;have g:=gl2;clear hkF hUA hkB;obtain ⟨hj,hkF,hUA,hkB⟩:=hI2;have E:=Jo (L:=[(b1,_,_)]) hnd2 ⟨B1,trivial⟩ rfl;refine IF (fun h3=>?_) fun h3=>?_
  ·replace h3:j<(dirT (fnsT t)[i]).length:=by simp only [decide_eq_true_eq] at h3;omega
   obtain ⟨hqe,q',r',hdell,hdid⟩:=hkB.opt1 h3;have hdm:=List.getElem_mem h3;have hdc:=Jtg hdm;refine AU ?_;refine CL (Zoc (dirT (fnsT t)[i])[j] _ _ _ hdid (by omega)) ?_;rintro v40 w40 ⟨hUB,g40⟩;refine ⟨fun _=>g40,?_⟩;obtain ⟨pC,cC,rfl⟩:=hUB.slice;have g:=g.trans g40;have hcl:=Ugc (dirT (fnsT t)[i])[j];replace E:=E.grow g40;have hkF:=hkF.grow (g40);have hkB:=hkB.grow (g40);have hdell:=hdell.grow (g40);have hdid:=hdid.grow (g40);have hUA:=hUA.grow (g40);refine Yr O (Ze (kq (Zi (Zk (Yr O (Ze (kq (Yo (?_)))))))));have hnd3:=E.1;refine Xo (fun (k:Nat) u3=>(k≤(capT (dirT (fnsT t)[i])[j]).length∧Kd u3 (fun _=>True) (fnsT t) (.slice p8 (fnsT t).length c8)∧RetF capCells u3 (cs) (.slice pA (cs).length cA)∧Kd u3 (fun b=>True∨w24.heap.size≤b) (dirT (fnsT t)[i]) (.slice pB (dirT (fnsT t)[i]).length cB)∧RetF capCells u3 (capT (dirT (fnsT t)[i])[j]) (.slice pC (capT (dirT (fnsT t)[i])[j]).length cC))∧G w u3) _ [(3,True,_),(4,True,_),(5,True,_),(6,True,_),(7,True,_),(8,True,_)] (fun (k:Nat)=>[(9,True,.int .i64 k)]) (fun (k:Nat)=>(capT (dirT (fnsT t)[i])[j]).length-k) (0) ⟨⟨Nat.zero_le _,hkF,hUA,hkB,hUB⟩,g⟩ (Zs (blkE E.g0) (Zz _)) (Za O (Za O (Za O (Za O (Za O (Za O (Za O (Zo _)))))))) ?_;clear E;rintro k u3 ⟨hI3,gl3⟩ ⟨B1,_⟩;replace B1:Blk _ _ _ _:=B1;have g:=gl3;clear hkF hUA hkB hUB;obtain ⟨hk3,hkF,hUA,hkB,hUB⟩:=hI3;have E:=Jo (L:=[(b1,_,_)]) hnd3 ⟨B1,trivial⟩ rfl;refine Zi (Zi (Zk (Zp O (Zp O (Xha Wo O (Xna O O (Ze (kq (Wn O (fun h4=>?_) (fun h4=>?_))))))))))
   ·replace h4:k<(capT (dirT (fnsT t)[i])[j]).length:=by simp only [decide_eq_true_eq] at h4;omega
    obtain ⟨hse,hsell⟩:=hUB.1.opt Uz h4;have hdcap:=Jsg hF hdm (List.getElem_mem h4);obtain ⟨cc,hcc⟩:∃ cc,cc=(capT (dirT (fnsT t)[i])[j])[k]:=⟨_,rfl⟩;rw [← hcc] at hsell hdcap;refine Yb (kq (Zi (Yo (Zi (Yx [3,3,3,3,0,3,3,3,3,3,3,3,0,3,3,3,3,3,0,3,1,3,3] [true,true,true,true,true,true,true,true,true,true,true,true,true,true,true,true,true,true,true,true,true,true,true] [0,0,3,7,15,31,63,127,127,127,895,1919,3967,8063,127,127,49279,114815,245887,524159,1048575,2097151,4194303] mix (by kernel_rfl) ?_)))));have g:=gdr g;replace E:=E.dr;have hkF:=hkF.grow (G.drew _);have hkB:=hkB.grow (G.drew _);have hdell:=hdell.grow (G.drew _);have hdid:=hdid.grow (G.drew _);have hsell:=hsell.grow (G.drew _);have hUA:=hUA.grow (G.drew _);have hUB:=hUB.grow (G.drew _);have hsz:=hsell;refine Zp O (Zp O (Ji Wo O O (by omega) hse (Yf Yna O (Yp Yh O (hsz.one (i:=0) O) (Xve O O (Zp O (Zj O O O (fun _=>Zl (Zd O)) (Zj O O O (fun _=>Zl (Zd O)) (Zj O O O (fun _=>Zl (Zd O)) (Zj O O O (fun _=>Xb Wo (Zm O id) (Zm O id) (fun _=>by omega) (fun _=>hse)) (Zj O O O (fun _=>Zn Yna (Zm O id)) (Yk O O O (Zw Yh (Zm O id) (fun _=>hsz.one (i:=0) O)) (Zj O O O (fun _=>Yad (Zm O id) Xg) (Zj O O O (fun _=>Zl (Zd O)) (Zj O O O (fun _=>Zl (Zd O)) (?_))))))))))))))))
    refine Zj O O O (fun _=>Xb Wo (Zm O id) (Zm O id) (fun _=>by omega) (fun _=>hse)) (Zj O O O (fun _=>Zn Ura (Zm O id)) (Yk O O O (Zw Yh (Zm O id) (fun _=>hsz.one (i:=1) O)) (Zj O O O (fun _=>Uv [_,_] Vj O Qz (Xn (Zm O id) (Xn (Zm O id) (Vk))) O) (Xt O O O (fun _=>(Yi Xsc Vc (Ym (Zm O id) (Ym (Zm O id) (Xh))) O)) (fun hc=>(show Ret PP _ _ _ (fun r w'=>r = .bool (decide ((IntKind.i64.wrap (cc.1-1),cc.2)∈cs))∧G _ w') from Uic _ _ _ _ _ hUA.1 (by omega))) (fun w67 g67=>?_)))));have g:=g.trans g67;replace E:=E.grow g67;have hkF:=hkF.grow (g67);have hkB:=hkB.grow (g67);have hsell:=hsell.grow (g67);have hUA:=hUA.grow (g67);have hUB:=hUB.grow (g67);refine IF (fun h5=>?_) fun h5=>?_
    ·exfalso;simp only [Bool.and_eq_true,Bool.not_eq_true',decide_eq_true_eq] at h5
     obtain ⟨z1,z2⟩:=hdcap.1 h5.1;rw [← hcs] at z1;rw [z2] at h5;exact absurd z1 (of_decide_eq_false h5.2);done
    refine AU ?_;refine SK [9,3,4,5,6,7,8] ?_;refine Ze (fun a ha=>?_);exact ⟨k+1,ha,⟨⟨h4,hkF,hUA,hkB,hUB⟩,g⟩,(Zs (blkE E.g0) (Zz _)),by omega⟩
   skip;refine AU ?_;refine SK [7,3,4,5,6] ?_;refine Ze (fun a ha=>?_);exact ⟨j+1,ha,⟨⟨h3,hkF,hUA,hkB⟩,g⟩,(Zs (blkE E.g0) (Zz _)),by omega⟩
  skip;refine AU ?_;refine SK [4,3] ?_;refine Ze (fun a ha=>?_);exact ⟨i+1,ha,⟨⟨h2,hkF⟩,g⟩,(Zs (blkE E.g0) (Zz _)),by omega⟩
 skip;refine RTN ?_;exact ⟨rfl,g⟩
end Go.Rk
