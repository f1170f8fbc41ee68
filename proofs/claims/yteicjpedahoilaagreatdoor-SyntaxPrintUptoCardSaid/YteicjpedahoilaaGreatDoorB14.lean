/- Merged texts of one road: Psd, Pln, Syp. Conditions: each text's own. -/
import Derived.Test.YteicjpedahoilaaGreatDoorB13
import Derived.Test.YteicjpedahoilaaGreatDoorB11
import Derived.Test.YteicjpedahoilaaGreatDoorB04
import Derived.Test.YteicjpedahoilaaGreatDoorB12
set_option linter.unusedSimpArgs false
set_option linter.unusedVariables false
namespace Go.Rk
open Go Go.RowKit
set_option linter.unusedVariables false
theorem dec_lo {n : Nat} (h : n < 10) : Lib.decDigits n = [UInt8.ofNat (48 + n)] := by rw [Lib.decDigits, dif_pos h]
theorem dec_hi {n : Nat} (h : ¬ n < 10) : Lib.decDigits n = Lib.decDigits (n / 10) ++ [UInt8.ofNat (48 + n % 10)] := by rw [Lib.decDigits, dif_neg h]
theorem u8_dig {k : Nat} (h : k < 10) : IntKind.u8.wrap (48 + (k : Int)) = (((UInt8.ofNat (48 + k)).toNat : Nat) : Int) := by
  rw [u8_id ⟨by omega, by omega⟩, UInt8.toNat_ofNat']; omega
theorem dec_len20 {n : Nat} (h : n ≤ 9223372036854775807) : (Lib.decDigits n).length ≤ 100 := by
  have : ∀ f n, (digF f n).length ≤ f := by
    intro f
    induction f with
    | zero => intro n; simp [digF]
    | succ f ih => intro n; rw [digF]; cases Nat.blt n 10
                   · have := ih (n / 10); simp; omega
                   · simp
  rw [← digL_dec h]; exact Nat.le_trans (this 20 n) (by omega)
theorem rdigits_ok : ∀ (n : Nat) (w : World), n ≤ 9223372036854775807 → Ret PP fn_r03_Digits #[.int .i64 (n : Nat)] w fun r w' => r = Str (Lib.decDigits n) ∧ G w w' := by
  intro n
  induction n using Nat.strongRecOn with
  | ind n ih =>
  intro w hn
  have g := G.refl w
  have hm : (n : Int).tmod 10 = ((n % 10 : Nat) : Int) := by rw [Int.tmod_eq_emod_of_nonneg (by omega)]; omega
  have hd : IntKind.i64.wrap ((n : Int).tdiv 10) = ((n / 10 : Nat) : Int) := by
    rw [Int.tdiv_eq_ediv_of_nonneg (by omega)]; exact (i64_id (by omega)).trans (by omega)
  refine Yl (m := 20) func_r03_Digits rfl rfl [(0, True, _)] (Za rfl (Zd _)) ?_
  refine Zh fun K1 hK1 => ?_
  refine Zf [3] ?_
  refine Zc rfl (fun _ => Ze Zr) ?_
  refine Zg (hK1 _ _ ?_)
  refine Zh fun K2 hK2 => ?_
  refine Zh fun K3 hK3 => ?_
  refine Zf [3, 3] ?_
  refine Zc rfl (fun _ => Zk (Zb rfl)) ?_
  refine Zc rfl (fun _ => Va (Zb rfl) Zr) ?_
  refine Zj [(0, _, _), (2, _, _), (4, _, _)] (Za rfl (Za rfl (Za rfl (Zd _)))) ?_
  refine Zg (hK3 _ _ ?_)
  refine Ya (Zb rfl) (fun h1 => ?_) (fun h1 => ?_)
  · replace h1 : n < 10 := by simp only [decide_eq_true_eq] at h1; omega
    have e := dec_lo h1
    refine Zh fun K4 hK4 => ?_
    refine Zf [3, 3, 3, 1, 0, 3] ?_
    refine Zc rfl (fun _ => Zk (Zb rfl)) ?_
    refine Zc rfl (fun _ => Xm Zr (Zb rfl) (fun _ => by omega)) ?_
    refine Zc rfl (fun _ => rd_convr (r := (((UInt8.ofNat (48 + n)).toNat : Nat) : Int)) ik_int ik_uint8 (Zb rfl) (fun hc => u8_dig h1)) ?_
    refine Zz [_] rfl Ui ze_uint8 (Zu (Zb rfl) (Yd)) rfl rfl ?_
    intro b8 w8 N8
    have l8 := N8.ge g
    have g := g.trans (N8.g)
    have B8 := N8.blk
    refine Zv rfl (rd_tostr (l := [UInt8.ofNat (48 + n)]) Ui ik_uint8 Xs (Zb rfl) rfl (fun _ => B8.row)) ?_
    refine Zc rfl (fun _ => Ze (Zb rfl)) ?_
    refine Zj [(0, _, _), (2, _, _)] (Za rfl (Za rfl (Zd _))) ?_
    refine Zg (hK4 _ _ ?_)
    refine Ye (Yf rfl rfl ?_)
    exact ⟨by rw [e], g⟩
  replace h1 : ¬ n < 10 := by simp only [decide_eq_false_iff_not] at h1; omega
  have e := dec_hi h1
  have hl10 := dec_len20 (n := n / 10) (by omega)
  refine Yt (hK2 _ _ ?_)
  refine Yn [(0, _, _), (2, _, _)] (Za rfl (Za rfl (Zd _))) ?_
  refine Zh fun K5 hK5 => ?_
  refine sc_drawT none [3, 3, 1, 3, 3, 3, 3, 1, 0, 3, 3] [0, 1, 3, 0, 8, 24, 56, 120, 248, 511, 1023] mix (by kernel_rfl) [0, 1, 2, 3, 4, 5, 6, 7, 8, 9, 10] rfl ?_
  have g := g.trans (G.drew _)
  refine Jb (L' := [1, 2, 3, 4, 5, 6, 7, 8, 9, 10]) 0 rfl rfl rfl (fun _ => Zk (Zb rfl)) ?_
  refine Jb (L' := [2, 3, 4, 5, 6, 7, 8, 9, 10]) 1 rfl rfl rfl (fun _ => rd_quow (Zb rfl) Zr (fun _ => by decide)) ?_
  refine Jb (L' := [2, 4, 5, 6, 7, 8, 9, 10]) 3 rfl rfl rfl (fun _ => Zk (Zb rfl)) ?_
  refine Jb (L' := [2, 5, 6, 7, 8, 9, 10]) 4 rfl rfl rfl (fun _ => rd_remw (Zb rfl) Zr (fun _ => by decide)) ?_
  refine Jb (L' := [2, 6, 7, 8, 9, 10]) 5 rfl rfl rfl (fun _ => Xm Zr (Zb rfl) (fun _ => by rw [hm]; omega)) ?_
  refine Jb (L' := [2, 7, 8, 9, 10]) 6 rfl rfl rfl (fun _ => rd_convr (r := (((UInt8.ofNat (48 + n % 10)).toNat : Nat) : Int)) ik_int ik_uint8 (Zb rfl) (fun hc => (by rw [hm]; exact u8_dig (by omega)))) ?_
  refine st_eff2 2 7 rfl rfl ?_ ?_
  · refine Xl (L' := [7, 8, 9, 10]) [3, 3, 1, 3, 3, 3, 3, 1, 0, 3, 3] rfl rfl rfl ?_
    refine Yb rfl (Zt go_r03_Digits Yi (Zi (Zb rfl) (Zp)) rfl) ((by rw [hd]; exact ih (n / 10) (by omega) _ (by omega))) ?_
    rintro v12 w12 ⟨rfl, g12⟩
    refine ⟨fun _ => g12, ?_⟩
    have g := g.trans (g12)
    refine Xy ((g12).only _) ?_
    refine Ws 7 rfl rfl ?_
    refine Xl (L' := [8, 9, 10]) [3, 3, 1, 3, 3, 3, 3, 1, 0, 3, 3] rfl rfl rfl ?_
    refine Zz [_] rfl Ui ze_uint8 (Zu (Zb rfl) (Yd)) rfl rfl ?_
    intro b17 w17 N17
    have l17 := N17.ge g
    have g := g.trans (N17.g)
    have B17 := N17.blk
    refine Xy ((N17.g).only _) ?_
    refine st_rd (L' := [9, 10]) 8 rfl rfl rfl (fun w1 hx => rd_tostr (l := [UInt8.ofNat (48 + n % 10)]) Ui ik_uint8 Xs (Zb rfl) rfl (fun _ => (B17.keep hx (by intro h; first | (injection h with h; omega) | cases h)).row)) ?_
    refine Jb (L' := [10]) 9 rfl rfl rfl (fun _ => Yy (Zb rfl) (Zb rfl) (fun _ => by show (Lib.decDigits (n / 10)).length + 1 ≤ 9223372036854775807; omega)) ?_
    refine Jb (L' := []) 10 rfl rfl rfl (fun _ => Ze (Zb rfl)) ?_
    refine st_sub [(2, _, _)] (Za rfl (Zd _)) ?_
    refine st_nil (hK5 _ _ ?_)
    refine Ye (Yf rfl rfl ?_)
    exact ⟨by rw [e], g⟩
  · refine Xl (L' := [2, 8, 9, 10]) [3, 3, 1, 3, 3, 3, 3, 1, 0, 3, 3] rfl rfl rfl ?_
    refine Zz [_] rfl Ui ze_uint8 (Zu (Zb rfl) (Yd)) rfl rfl ?_
    intro b17 w17 N17
    have l17 := N17.ge g
    have g := g.trans (N17.g)
    have B17 := N17.blk
    refine Xy ((N17.g).only _) ?_
    refine st_rd (L' := [2, 9, 10]) 8 rfl rfl rfl (fun w1 hx => rd_tostr (l := [UInt8.ofNat (48 + n % 10)]) Ui ik_uint8 Xs (Zb rfl) rfl (fun _ => (B17.keep hx (by intro h; first | (injection h with h; omega) | cases h)).row)) ?_
    refine Ws 2 rfl rfl ?_
    refine Xl (L' := [9, 10]) [3, 3, 1, 3, 3, 3, 3, 1, 0, 3, 3] rfl rfl rfl ?_
    refine Yb rfl (Zt go_r03_Digits Yi (Zi (Zb rfl) (Zp)) rfl) ((by rw [hd]; exact ih (n / 10) (by omega) _ (by omega))) ?_
    rintro v12 w12 ⟨rfl, g12⟩
    refine ⟨fun _ => g12, ?_⟩
    have g := g.trans (g12)
    replace B17 := B17.grow (g12)
    refine Xy ((g12).only _) ?_
    refine Jb (L' := [10]) 9 rfl rfl rfl (fun _ => Yy (Zb rfl) (Zb rfl) (fun _ => by show (Lib.decDigits (n / 10)).length + 1 ≤ 9223372036854775807; omega)) ?_
    refine Jb (L' := []) 10 rfl rfl rfl (fun _ => Ze (Zb rfl)) ?_
    refine st_sub [(2, _, _)] (Za rfl (Zd _)) ?_
    refine st_nil (hK5 _ _ ?_)
    refine Ye (Yf rfl rfl ?_)
    exact ⟨by rw [e], g⟩
def flS (l : List Nd) : List UInt8 := l.flatMap fun f => ((([9] ++ f.text) ++ [32]) ++ typeX (kidAt f 0)) ++ [10]
theorem flS_snoc (l : List Nd) {i : Nat} (h : i < l.length) : flS (l.take (i + 1)) = flS (l.take i) ++ (((([9] ++ l[i].text) ++ [32]) ++ typeX (kidAt l[i] 0)) ++ [10]) := by
  rw [flS, Vo h, List.flatMap_append, flS]; simp
theorem flS_le (l : List Nd) (i : Nat) : (flS (l.take i)).length ≤ (flS l).length := by
  conv => rhs; rw [flS, ← List.take_append_drop i l, List.flatMap_append, List.length_append]
  exact Nat.le_add_right _ _
def accS (t : Nd) (i : Nat) : List UInt8 := bif Nat.ble i 0 then ([116, 121, 112, 101, 32] ++ t.text) ++ [32, 115, 116, 114, 117, 99, 116, 32, 123, 10] else (([116, 121, 112, 101, 32] ++ t.text) ++ [32, 115, 116, 114, 117, 99, 116, 32, 123, 10]) ++ flS (t.kids.take i)
theorem accS_eq (t : Nd) (i : Nat) : accS t i = (([116, 121, 112, 101, 32] ++ t.text) ++ [32, 115, 116, 114, 117, 99, 116, 32, 123, 10]) ++ flS (t.kids.take i) := by
  cases i with
  | zero => show ([116, 121, 112, 101, 32] ++ t.text) ++ [32, 115, 116, 114, 117, 99, 116, 32, 123, 10] = _; rw [List.take_zero]; simp [flS]
  | succ i => rfl
theorem joinX_app : ∀ (a b : List (List UInt8)), ∃ r, joinX (a ++ b) = joinX a ++ r
  | [], b => ⟨joinX b, rfl⟩
  | s :: a, b => ⟨b.flatMap fun u => [44, 32] ++ u, by show s ++ (a ++ b).flatMap _ = (s ++ a.flatMap _) ++ _; rw [List.flatMap_append, List.append_assoc]⟩
theorem joinX_sn {a : List (List UInt8)} (h : a ≠ []) (u : List UInt8) : joinX (a ++ [u]) = (joinX a ++ [44, 32]) ++ u := by
  cases a with
  | nil => exact absurd rfl h
  | cons s a => show s ++ (a ++ [u]).flatMap _ = ((s ++ a.flatMap _) ++ _) ++ u; rw [List.flatMap_append]; simp
def parP (l : List Nd) : List UInt8 := joinX (l.map fieldX)
theorem parP_le (l : List Nd) (i : Nat) : (parP (l.take i)).length ≤ (parP l).length := by
  obtain ⟨r, e⟩ := joinX_app ((l.take i).map fieldX) ((l.drop i).map fieldX)
  rw [← List.map_append, List.take_append_drop] at e
  rw [parP, parP, e, List.length_append]; omega
def accP (t : Nd) (ps : List Nd) (i : Nat) : List UInt8 := bif Nat.ble i 0 then ([102, 117, 110, 99, 32] ++ t.text) ++ [40] else (([102, 117, 110, 99, 32] ++ t.text) ++ [40]) ++ parP (ps.take i)
theorem accP_eq (t : Nd) (ps : List Nd) (i : Nat) : accP t ps i = (([102, 117, 110, 99, 32] ++ t.text) ++ [40]) ++ parP (ps.take i) := by
  cases i with
  | zero => show ([102, 117, 110, 99, 32] ++ t.text) ++ [40] = _; rw [List.take_zero]; simp [parP, joinX]
  | succ i => rfl
theorem accP_pos (t : Nd) (ps : List Nd) {i : Nat} (h : i < ps.length) (h0 : 0 < i) : (accP t ps i ++ [44, 32]) ++ ((ps[i].text ++ [32]) ++ typeX (kidAt ps[i] 0)) = accP t ps (i + 1) := by
  rw [accP_eq, accP_eq, Vo h, parP, parP, List.map_append, List.map_singleton, joinX_sn]
  · show _ = _ ++ ((_ ++ _) ++ ((ps[i].text ++ [32]) ++ typeX (kidAt ps[i] 0))); simp only [List.append_assoc]
  · intro e; have := congrArg List.length e; rw [List.length_map, List.length_take, List.length_nil] at this; omega
theorem accP_one (t : Nd) (ps : List Nd) (h : 0 < ps.length) : accP t ps 0 ++ (((ps[0]'h).text ++ ([32] : List UInt8)) ++ typeX (kidAt (ps[0]'h) 0)) = accP t ps 1 := by
  rw [accP_eq, accP_eq, Vo h, parP, parP, List.map_append, List.map_singleton]
  simp [joinX, fieldX]
theorem declX_2 {t : Nd} (h : t.kind = 2) : declX t = ((([116, 121, 112, 101, 32] ++ t.text) ++ [32, 115, 116, 114, 117, 99, 116, 32, 123, 10]) ++ flS t.kids) ++ [125] := by
  rw [declX, h]; rfl
theorem declX_4 {t : Nd} (h : t.kind = 4) : declX t = ((((([102, 117, 110, 99, 32] ++ t.text) ++ [40]) ++ parP (kidAt t 0).kids) ++ [41, 32]) ++ (bif decide ((kidAt t 1).kind = 9) then [] else typeX (kidAt t 1) ++ [32])) ++ blkT (kidAt t 2) 0 := by
  rw [declX, h]; rfl
theorem declX_6 {t : Nd} (h : t.kind = 6) : declX t = stT t 0 := by rw [declX, h]; rfl
set_option maxHeartbeats 4000000 in
theorem rdecl_ok (hall : ∀ x, RPk x) (t : Nd) (v : Value) (D : Nat → Prop) (w : World) (hx : declB t = true) (hok : okNd t) (hk : Kd w D t.kids v) (hc : count t ≤ 1000000) (hlen : (declX t).length < 100000000) : Ret PP fn_r03_declText #[ndV t v] w fun r w' => r = Str (declX t) ∧ G w w' := by
  have g := G.refl w
  have hln := Vs t
  have hcn : count t = 1 + (t.kids.map count).sum := Wt t
  have hk0 := hk
  obtain ⟨p, c, rfl, _, hks⟩ := hk
  have ih : RPel t := fun x _ => hall x
  refine Yl (m := 109) func_r03_declText rfl rfl [(0, True, _)] (Za rfl (Zd _)) ?_
  refine Zh fun K1 hK1 => ?_
  refine Zf [1, 3] ?_
  refine Xt rfl (Zb rfl) rfl ?_
  intro b1 w1 N1
  have l1 := N1.ge g
  have g := g.trans (N1.g)
  have B1 := N1.blk
  refine Zc rfl (fun _ => Ze Zr) ?_
  refine Zj [(1, _, _), (2, _, _)] (Za rfl (Za rfl (Zd _))) ?_
  refine Zg (hK1 _ _ ?_)
  refine Zh fun K2 hK2 => ?_
  refine Zh fun K3 hK3 => ?_
  refine Zf [3, 0] ?_
  refine Zc rfl (fun _ => Zn Yj (Zb rfl)) ?_
  refine Zv rfl (Zs Yv (Zb rfl) (fun _ => B1.at_ rfl)) ?_
  refine Zj [(1, _, _), (2, _, _), (9, _, _)] (Za rfl (Za rfl (Za rfl (Zd _)))) ?_
  refine Zg (hK3 _ _ ?_)
  refine Yr ?_
  refine Zh fun K4 hK4 => ?_
  refine Zf [3, 3] ?_
  refine Zc rfl (fun _ => Yg (Zb rfl) Zr) ?_
  refine Zc rfl (fun _ => Ze (Zb rfl)) ?_
  refine Zj [(1, _, _), (2, _, _), (9, _, _), (10, _, _)] (Za rfl (Za rfl (Za rfl (Za rfl (Zd _))))) ?_
  refine Zg (hK4 _ _ ?_)
  refine Ya (Zb rfl) (fun h1 => ?_) (fun h1 => ?_)
  · replace h1 := of_decide_eq_true h1
    have e := declX_6 h1
    rw [e] at hlen
    refine Zh fun K5 hK5 => ?_
    refine Zf [0, 1, 3] ?_
    refine Zv rfl (Zy Zq (Zb rfl) rfl (fun _ => B1.row)) ?_
    refine Yb rfl (Zt go_r03_varText Yi (Zi (Zb rfl) (Zi Zr (Zp))) rfl) (rvar_ok ih (dec6 h1 hx) hok h1 _ _ D 0 _ (hk0.grow g) hlen (by omega)) ?_
    rintro v13 w13 ⟨rfl, g13⟩
    refine ⟨fun _ => g13, ?_⟩
    have g := g.trans (g13)
    replace B1 := B1.grow (g13)
    refine Zc rfl (fun _ => Ze (Zb rfl)) ?_
    refine Zj [(1, _, _), (2, _, _)] (Za rfl (Za rfl (Zd _))) ?_
    refine Zg (hK5 _ _ ?_)
    refine Ye (Yf rfl rfl ?_)
    exact ⟨by rw [e], g⟩
  (try simp only [bsimp] at h1)
  refine Zh fun K6 hK6 => ?_
  refine Zf [3, 3] ?_
  refine Zc rfl (fun _ => Yg (Zb rfl) Zr) ?_
  refine Zc rfl (fun _ => Ze (Zb rfl)) ?_
  refine Zj [(1, _, _), (2, _, _), (14, _, _)] (Za rfl (Za rfl (Za rfl (Zd _)))) ?_
  refine Zg (hK6 _ _ ?_)
  refine Ya (Zb rfl) (fun h2 => ?_) (fun h2 => ?_)
  · replace h2 := of_decide_eq_true h2
    obtain ⟨ht, hf⟩ := dec2 h2 hx
    have hff := List.all_eq_true.1 hf
    have e := declX_2 h2
    rw [e] at hlen
    simp only [Js, Jt, Ju, Jv, Jw, Jy, tabsL, Jz] at hlen
    refine Zh fun K7 hK7 => ?_
    refine Zf [3, 0, 3, 3, 3] ?_
    refine Zc rfl (fun _ => Zn Yk (Zb rfl)) ?_
    refine Zv rfl (Zs Ys (Zb rfl) (fun _ => B1.at_ rfl)) ?_
    refine Zc rfl (fun _ => Yy Zr (Zb rfl) (fun _ => by first | omega | (simp only [List.length_append, List.length_cons, List.length_nil, List.flatten_cons, List.flatten_nil, List.append_nil]; omega))) ?_
    refine Zc rfl (fun _ => Yy (Zb rfl) Zr (fun _ => by first | omega | (simp only [List.length_append, List.length_cons, List.length_nil, List.flatten_cons, List.flatten_nil, List.append_nil]; omega))) ?_
    refine Zc rfl (fun _ => Ze (Zb rfl)) ?_
    refine Zj [(1, _, _), (2, _, _), (3, _, _)] (Za rfl (Za rfl (Za rfl (Zd _)))) ?_
    refine Zg (hK7 _ _ ?_)
    refine Zh fun K8 hK8 => ?_
    refine Zh fun K9 hK9 => ?_
    refine Zf [3] ?_
    refine Zc rfl (fun _ => Ze Zr) ?_
    refine Zg (hK9 _ _ ?_)
    refine Yr ?_
    refine Wa (fun (i : Nat) u1 => (i ≤ t.kids.length) ∧ G w1 u1) [(1, True, _), (2, True, _)] (fun (i : Nat) => [(3, True, Str (accS t i)), (4, True, .int .i64 i)]) (fun (i : Nat) => t.kids.length - i) (0) ⟨Nat.zero_le _, G.refl _⟩ (Za rfl (Za rfl (Za rfl (Za rfl (Zd _))))) ?_
    rintro i u1 ⟨hI1, gl1⟩
    have g := g.trans gl1
    replace B1 := B1.grow (gl1)
    refine Zh fun K10 hK10 => ?_
    refine Zh fun K11 hK11 => ?_
    refine Zf [3, 3, 0, 3, 3] ?_
    refine Zc rfl (fun _ => Zk (Zb rfl)) ?_
    refine Zc rfl (fun _ => Zn Zo (Zb rfl)) ?_
    refine Zv rfl (Zs Zm (Zb rfl) (fun _ => B1.at_ rfl)) ?_
    refine Zc rfl (fun _ => Xr Zl (Zb rfl)) ?_
    refine Zc rfl (fun _ => Va (Zb rfl) (Zb rfl)) ?_
    refine Zj [(1, _, _), (2, _, _), (3, _, _), (4, _, _), (24, _, _)] (Za rfl (Za rfl (Za rfl (Za rfl (Za rfl (Zd _)))))) ?_
    refine Zg (hK11 _ _ ?_)
    refine Ya (Zb rfl) (fun h3 => ?_) (fun h3 => ?_)
    · replace h3 : i < t.kids.length := by simp only [decide_eq_true_eq] at h3; omega
      obtain ⟨b9, o9, rfl, hD9, xs, hR, hX⟩ := hks (by omega)
      obtain ⟨p9, c9, hcell, hkid⟩ := Qv hR hX h3
      obtain ⟨_, _, hk1, _⟩ := sh3 (hff _ (List.getElem_mem h3))
      obtain ⟨hpA, pA, cA, hcA, hkA⟩ := Xd hkid (i := 0) (by omega)
      have hjs := flS_snoc t.kids h3
      have hjl := flS_le t.kids (i + 1)
      rw [hjs] at hjl
      simp only [Js, Jt, Ju, Jv, Jw, Jy, tabsL, Jz] at hjl
      have hac := congrArg List.length (accS_eq t i)
      simp only [Js, Jt, Ju, Jv, Jw, Jy, tabsL, Jz] at hac
      refine Yt (hK10 _ _ ?_)
      refine Yn [(1, _, _), (2, _, _), (3, _, _), (4, _, _)] (Za rfl (Za rfl (Za rfl (Za rfl (Zd _))))) ?_
      refine Zh fun K12 hK12 => ?_
      refine Yr ?_
      refine Xx [3, 3, 0, 3, 3, 3, 0, 3, 3, 3, 0, 3, 3, 3, 0, 3, 0, 1, 3, 3, 3, 3] [true, true, true, true, true, true, true, true, true, true, true, true, true, true, true, true, true, true, true, true, true, true] [0, 0, 2, 0, 14, 30, 62, 126, 254, 0, 512, 0, 3584, 7680, 15872, 32256, 65024, 130560, 262142, 524286, 1048575, 2097151] mix (by kernel_rfl) ?_
      have g := g.trans (G.drew _)
      try have gl1 := gl1.trans (G.drew _)
      replace B1 := B1.grow (G.drew _)
      refine Zc rfl (fun _ => Zk (Zb rfl)) ?_
      refine Zc rfl (fun _ => Zn Zo (Zb rfl)) ?_
      refine Zv rfl (Zs Zm (Zb rfl) (fun _ => B1.at_ rfl)) ?_
      refine Zc rfl (fun _ => Zk (Zb rfl)) ?_
      refine Zc rfl (fun _ => Vb Zl (Zb rfl) (Zb rfl) (fun _ => by first | omega | (simp only [List.length_append, List.length_cons, List.length_nil, List.flatten_cons, List.flatten_nil, List.append_nil]; omega))) ?_
      refine Zc rfl (fun _ => Zn Yk (Zb rfl)) ?_
      refine Zv rfl (Zs Ys (Zb rfl) (fun _ => (hcell.grow g) 1 _ rfl)) ?_
      refine Zc rfl (fun _ => Yy Zr (Zb rfl) (fun _ => by first | omega | (simp only [List.length_append, List.length_cons, List.length_nil, List.flatten_cons, List.flatten_nil, List.append_nil]; omega))) ?_
      refine Zc rfl (fun _ => Yy (Zb rfl) Zr (fun _ => by first | omega | (simp only [List.length_append, List.length_cons, List.length_nil, List.flatten_cons, List.flatten_nil, List.append_nil]; omega))) ?_
      refine Zc rfl (fun _ => Zn Zo (Zb rfl)) ?_
      refine Zv rfl (Zs Zm (Zb rfl) (fun _ => B1.at_ rfl)) ?_
      refine Zc rfl (fun _ => Zk (Zb rfl)) ?_
      refine Zc rfl (fun _ => Vb Zl (Zb rfl) (Zb rfl) (fun _ => by first | omega | (simp only [List.length_append, List.length_cons, List.length_nil, List.flatten_cons, List.flatten_nil, List.append_nil]; omega))) ?_
      refine Zc rfl (fun _ => Zn Zo (Zb rfl)) ?_
      refine Zv rfl (Zs Zm (Zb rfl) (fun _ => (hcell.grow g) 4 _ rfl)) ?_
      refine Zc rfl (fun _ => Ym Zl (Zb rfl) Zr (fun _ => by omega) (fun _ => hpA)) ?_
      refine Zv rfl (Zy Zq (Zb rfl) rfl (fun _ => hcA.grow g)) ?_
      refine Yb rfl (Zt Qa Yi (Zi (Zb rfl) (Zp)) rfl) (rtyp_ok _ _ _ (by first | omega | (simp only [Js, Jt, Ju, Jv, Jw, Jy, tabsL, Jz]; omega)) ⟨_, _, rfl⟩) ?_
      rintro v44 w44 ⟨rfl, g44⟩
      refine ⟨fun _ => g44, ?_⟩
      have g := g.trans (g44)
      try have gl1 := gl1.trans (g44)
      replace B1 := B1.grow (g44)
      refine Zc rfl (fun _ => Yy (Zb rfl) (Zb rfl) (fun _ => by first | omega | (simp only [List.length_append, List.length_cons, List.length_nil, List.flatten_cons, List.flatten_nil, List.append_nil]; omega))) ?_
      refine Zc rfl (fun _ => Yy (Zb rfl) Zr (fun _ => by first | omega | (simp only [List.length_append, List.length_cons, List.length_nil, List.flatten_cons, List.flatten_nil, List.append_nil]; omega))) ?_
      refine Zc rfl (fun _ => Yy (Zb rfl) (Zb rfl) (fun _ => by first | omega | (simp only [List.length_append, List.length_cons, List.length_nil, List.flatten_cons, List.flatten_nil, List.append_nil]; omega))) ?_
      refine Zc rfl (fun _ => Ze (Zb rfl)) ?_
      refine Zj [(1, _, _), (2, _, _), (3, _, _), (4, _, _)] (Za rfl (Za rfl (Za rfl (Za rfl (Zd _))))) ?_
      refine Zg (hK12 _ _ ?_)
      refine Zf [3, 3, 3] ?_
      refine Zc rfl (fun _ => Zk (Zb rfl)) ?_
      refine Zc rfl (fun _ => Xm (Zb rfl) Zr (fun _ => by first | omega | (simp only [List.length_append, List.length_cons, List.length_nil, List.flatten_cons, List.flatten_nil, List.append_nil]; omega))) ?_
      refine Zc rfl (fun _ => Ze (Zb rfl)) ?_
      refine Zj [(3, _, _), (4, _, _), (1, _, _), (2, _, _)] (Za rfl (Za rfl (Za rfl (Za rfl (Zd _))))) ?_
      refine Zg (fun a ha => ?_)
      rw [show accS t i ++ (((([9] ++ t.kids[i].text) ++ [32]) ++ typeX (kidAt t.kids[i] 0)) ++ [10]) = accS t (i + 1) by rw [accS_eq, accS_eq, hjs]; simp only [List.append_assoc]] at ha
      exact ⟨i + 1, ha, ⟨h3, gl1⟩, by omega⟩
    replace h3 : i = t.kids.length := by simp only [decide_eq_false_iff_not] at h3; omega
    subst h3
    have hac := accS_eq t t.kids.length
    rw [List.take_length] at hac
    refine Xz rfl (hK8 _ _ ?_)
    refine Yn [(1, _, _), (2, _, _), (3, _, _)] (Za rfl (Za rfl (Za rfl (Zd _)))) ?_
    refine Zh fun K13 hK13 => ?_
    refine Zf [3, 3, 3] ?_
    refine Zc rfl (fun _ => Zk (Zb rfl)) ?_
    refine Zc rfl (fun _ => Yy (Zb rfl) Zr (fun _ => by rw [hac]; simp only [List.length_append, List.length_cons, List.length_nil]; omega)) ?_
    refine Zc rfl (fun _ => Ze (Zb rfl)) ?_
    refine Zg (hK13 _ _ ?_)
    refine Ye (Yf rfl rfl ?_)
    exact ⟨by rw [e, hac], g⟩
  have h4 : t.kind = 4 := by simp only [decide_eq_false_iff_not] at h1 h2; have := decl_kind hx; omega
  obtain ⟨ht, hl3, hf, hty, hbl⟩ := dec4 h4 hx
  have hff := List.all_eq_true.1 hf
  have e := declX_4 h4
  rw [e] at hlen
  simp only [Js, Jt, Ju, Jv, Jw, Jy, tabsL, Jz] at hlen
  obtain ⟨hp0, p0, c0, hc0, hkp⟩ := Xd hk0 (i := 0) (by omega)
  obtain ⟨hp1, p1, c1, hc1, hk1⟩ := Xd hk0 (i := 1) (by omega)
  obtain ⟨hp2, p2, c2, hc2, hk2⟩ := Xd hk0 (i := 2) (by omega)
  have hB2 := ih.b (i := 2) (by omega) hbl hok
  have hq2 := Yp (t := t) (i := 2) (by omega)
  have hq0 := Yp (t := t) (i := 0) (by omega)
  have hqk := Vs (kidAt t 0)
  refine Yt (hK2 _ _ ?_)
  refine Yn [(1, _, _), (2, _, _)] (Za rfl (Za rfl (Zd _))) ?_
  refine Zh fun K14 hK14 => ?_
  refine Zf [3, 0, 3, 3, 3] ?_
  refine Zc rfl (fun _ => Zn Yk (Zb rfl)) ?_
  refine Zv rfl (Zs Ys (Zb rfl) (fun _ => B1.at_ rfl)) ?_
  refine Zc rfl (fun _ => Yy Zr (Zb rfl) (fun _ => by first | omega | (simp only [List.length_append, List.length_cons, List.length_nil, List.flatten_cons, List.flatten_nil, List.append_nil]; omega))) ?_
  refine Zc rfl (fun _ => Yy (Zb rfl) Zr (fun _ => by first | omega | (simp only [List.length_append, List.length_cons, List.length_nil, List.flatten_cons, List.flatten_nil, List.append_nil]; omega))) ?_
  refine Zc rfl (fun _ => Ze (Zb rfl)) ?_
  refine Zg (hK14 _ _ ?_)
  refine Yn [(1, _, _), (2, _, _), (5, _, _), (50, _, _), (51, _, _), (52, _, _), (53, _, _)] (Za rfl (Za rfl (Za rfl (Za rfl (Za rfl (Za rfl (Za rfl (Zd _)))))))) ?_
  refine Zh fun K15 hK15 => ?_
  refine Zf [3, 0, 3, 3, 0, 3] ?_
  refine Zc rfl (fun _ => Zn Zo (Zb rfl)) ?_
  refine Zv rfl (Zs Zm (Zb rfl) (fun _ => B1.at_ rfl)) ?_
  refine Zc rfl (fun _ => Ym Zl (Zb rfl) Zr (fun _ => by omega) (fun _ => hp0)) ?_
  refine Zc rfl (fun _ => Zn Zo (Zb rfl)) ?_
  refine Zv rfl (Zs Zm (Zb rfl) (fun _ => (hc0.grow g) 4 _ rfl)) ?_
  refine Zc rfl (fun _ => Ze (Zb rfl)) ?_
  refine Zg (hK15 _ _ ?_)
  refine Yn [(1, _, _), (2, _, _), (5, _, _), (6, _, _), (50, _, _), (51, _, _), (52, _, _), (53, _, _), (54, _, _), (55, _, _), (56, _, _), (57, _, _), (58, _, _)] (Za rfl (Za rfl (Za rfl (Za rfl (Za rfl (Za rfl (Za rfl (Za rfl (Za rfl (Za rfl (Za rfl (Za rfl (Za rfl (Zd _)))))))))))))) ?_
  refine Zh fun K16 hK16 => ?_
  refine Zh fun K17 hK17 => ?_
  refine Zf [3] ?_
  refine Zc rfl (fun _ => Ze Zr) ?_
  refine Zg (hK17 _ _ ?_)
  refine Yn [(1, _, _), (2, _, _), (5, _, _), (6, _, _), (7, _, _), (50, _, _), (51, _, _), (52, _, _), (53, _, _), (54, _, _), (55, _, _), (56, _, _), (57, _, _), (58, _, _)] (Za rfl (Za rfl (Za rfl (Za rfl (Za rfl (Za rfl (Za rfl (Za rfl (Za rfl (Za rfl (Za rfl (Za rfl (Za rfl (Za rfl (Zd _))))))))))))))) ?_
  refine Yr ?_
  refine Wa (fun (i : Nat) u2 => (i ≤ (kidAt t 0).kids.length) ∧ G w1 u2) [(1, True, _), (2, True, _), (6, True, _), (50, True, _), (51, True, _), (52, True, _), (53, True, _), (54, True, _), (55, True, _), (56, True, _), (57, True, _), (58, True, _)] (fun (i : Nat) => [(5, True, Str (accP t (kidAt t 0).kids i)), (7, True, .int .i64 i)]) (fun (i : Nat) => (kidAt t 0).kids.length - i) (0) ⟨Nat.zero_le _, G.refl _⟩ (Za rfl (Za rfl (Za rfl (Za rfl (Za rfl (Za rfl (Za rfl (Za rfl (Za rfl (Za rfl (Za rfl (Za rfl (Za rfl (Za rfl (Zd _))))))))))))))) ?_
  rintro i u2 ⟨hI2, gl2⟩
  have g := g.trans gl2
  replace B1 := B1.grow (gl2)
  have hac := congrArg List.length (accP_eq t (kidAt t 0).kids i)
  have hpl := parP_le (kidAt t 0).kids i
  simp only [Js, Jt, Ju, Jv, Jw, Jy, tabsL, Jz] at hac
  refine Zh fun K18 hK18 => ?_
  refine Zh fun K19 hK19 => ?_
  refine Zf [3, 3, 3, 3] ?_
  refine Zc rfl (fun _ => Zk (Zb rfl)) ?_
  refine Zc rfl (fun _ => Zk (Zb rfl)) ?_
  refine Zc rfl (fun _ => Xr Zl (Zb rfl)) ?_
  refine Zc rfl (fun _ => Va (Zb rfl) (Zb rfl)) ?_
  refine Zg (hK19 _ _ ?_)
  refine Yn [(1, _, _), (2, _, _), (5, _, _), (6, _, _), (7, _, _), (50, _, _), (51, _, _), (52, _, _), (53, _, _), (54, _, _), (55, _, _), (56, _, _), (57, _, _), (58, _, _), (59, _, _), (60, _, _), (61, _, _), (62, _, _)] (Za rfl (Za rfl (Za rfl (Za rfl (Za rfl (Za rfl (Za rfl (Za rfl (Za rfl (Za rfl (Za rfl (Za rfl (Za rfl (Za rfl (Za rfl (Za rfl (Za rfl (Za rfl (Zd _))))))))))))))))))) ?_
  refine Ya (Zb rfl) (fun h4 => ?_) (fun h4 => ?_)
  · replace h4' : i < (kidAt t 0).kids.length := by simp only [decide_eq_true_eq] at h4; omega
    clear h4
    obtain ⟨hpI, pI, cI, hcI, hkI⟩ := Xd hkp h4'
    rw [Wc h4'] at hcI hkI
    obtain ⟨_, _, hk1', _⟩ := sh3 (hff _ (List.getElem_mem h4'))
    obtain ⟨hpA, pA, cA, hcA, hkA⟩ := Xd hkI (i := 0) (by omega)
    have hac2 := congrArg List.length (accP_eq t (kidAt t 0).kids (i + 1))
    have hpl2 := parP_le (kidAt t 0).kids (i + 1)
    simp only [Js, Jt, Ju, Jv, Jw, Jy, tabsL, Jz] at hac2
    refine Yt (hK18 _ _ ?_)
    refine Zh fun K20 hK20 => ?_
    refine Yr ?_
    refine Zh fun K21 hK21 => ?_
    refine Zh fun K22 hK22 => ?_
    refine Zf [3, 3] ?_
    refine Zc rfl (fun _ => Zk (Zb rfl)) ?_
    refine Zc rfl (fun _ => rd_gt (Zb rfl) Zr) ?_
    refine Zg (hK22 _ _ ?_)
    refine Ya (Zb rfl) (fun h5 => ?_) (fun h5 => ?_)
    · have hi0 : 0 < i := by simp only [decide_eq_true_eq] at h5; omega
      have hs := accP_pos t (kidAt t 0).kids h4' hi0
      have hsl := congrArg List.length hs
      simp only [Js, Jt, Ju, Jv, Jw, Jy, tabsL, Jz] at hsl
      refine Zf [3, 3, 3] ?_
      refine Zc rfl (fun _ => Zk (Zb rfl)) ?_
      refine Zc rfl (fun _ => Yy (Zb rfl) Zr (fun _ => by first | omega | (simp only [List.length_append, List.length_cons, List.length_nil, List.flatten_cons, List.flatten_nil, List.append_nil]; omega))) ?_
      refine Zc rfl (fun _ => Ze (Zb rfl)) ?_
      refine Zg (hK21 _ _ ?_)
      refine Xx [3, 3, 3, 3, 3, 0, 3, 3, 3, 3, 3, 0, 3, 0, 1, 3, 3, 3] [true, true, true, true, true, true, true, true, true, true, true, true, true, true, true, true, true, true] [0, 0, 0, 6, 14, 30, 62, 0, 0, 384, 896, 1920, 3968, 8064, 16256, 32766, 65535, 131071] mix (by kernel_rfl) ?_
      have g := g.trans (G.drew _)
      try have gl2 := gl2.trans (G.drew _)
      replace B1 := B1.grow (G.drew _)
      refine Zc rfl (fun _ => Zk (Zb rfl)) ?_
      refine Zc rfl (fun _ => Zk (Zb rfl)) ?_
      refine Zc rfl (fun _ => Zk (Zb rfl)) ?_
      refine Zc rfl (fun _ => Ym Zl (Zb rfl) (Zb rfl) (fun _ => by omega) (fun _ => hpI)) ?_
      refine Zc rfl (fun _ => Zn Yk (Zb rfl)) ?_
      refine Zv rfl (Zs Ys (Zb rfl) (fun _ => (hcI.grow g) 1 _ rfl)) ?_
      refine Zc rfl (fun _ => Yy (Zb rfl) Zr (fun _ => by first | omega | (simp only [List.length_append, List.length_cons, List.length_nil, List.flatten_cons, List.flatten_nil, List.append_nil]; omega))) ?_
      refine Zc rfl (fun _ => Zk (Zb rfl)) ?_
      refine Zc rfl (fun _ => Zk (Zb rfl)) ?_
      refine Zc rfl (fun _ => Ym Zl (Zb rfl) (Zb rfl) (fun _ => by omega) (fun _ => hpI)) ?_
      refine Zc rfl (fun _ => Zn Zo (Zb rfl)) ?_
      refine Zv rfl (Zs Zm (Zb rfl) (fun _ => (hcI.grow g) 4 _ rfl)) ?_
      refine Zc rfl (fun _ => Ym Zl (Zb rfl) Zr (fun _ => by omega) (fun _ => hpA)) ?_
      refine Zv rfl (Zy Zq (Zb rfl) rfl (fun _ => hcA.grow g)) ?_
      refine Yb rfl (Zt Qa Yi (Zi (Zb rfl) (Zp)) rfl) (rtyp_ok _ _ _ (by first | omega | (simp only [Js, Jt, Ju, Jv, Jw, Jy, tabsL, Jz]; omega)) ⟨_, _, rfl⟩) ?_
      rintro v83 w83 ⟨rfl, g83⟩
      refine ⟨fun _ => g83, ?_⟩
      have g := g.trans (g83)
      try have gl2 := gl2.trans (g83)
      replace B1 := B1.grow (g83)
      refine Zc rfl (fun _ => Yy (Zb rfl) (Zb rfl) (fun _ => by first | omega | (simp only [List.length_append, List.length_cons, List.length_nil, List.flatten_cons, List.flatten_nil, List.append_nil]; omega))) ?_
      refine Zc rfl (fun _ => Yy (Zb rfl) (Zb rfl) (fun _ => by first | omega | (simp only [List.length_append, List.length_cons, List.length_nil, List.flatten_cons, List.flatten_nil, List.append_nil]; omega))) ?_
      refine Zc rfl (fun _ => Ze (Zb rfl)) ?_
      refine Zg (hK20 _ _ ?_)
      refine Zf [3, 3, 3] ?_
      refine Zc rfl (fun _ => Zk (Zb rfl)) ?_
      refine Zc rfl (fun _ => Xm (Zb rfl) Zr (fun _ => by first | omega | (simp only [List.length_append, List.length_cons, List.length_nil, List.flatten_cons, List.flatten_nil, List.append_nil]; omega))) ?_
      refine Zc rfl (fun _ => Ze (Zb rfl)) ?_
      refine Zj [(5, _, _), (7, _, _), (1, _, _), (2, _, _), (6, _, _), (50, _, _), (51, _, _), (52, _, _), (53, _, _), (54, _, _), (55, _, _), (56, _, _), (57, _, _), (58, _, _)] (Za rfl (Za rfl (Za rfl (Za rfl (Za rfl (Za rfl (Za rfl (Za rfl (Za rfl (Za rfl (Za rfl (Za rfl (Za rfl (Za rfl (Zd _))))))))))))))) ?_
      refine Zg (fun a ha => ?_)
      rw [hs] at ha
      exact ⟨_, ha, ⟨h4', gl2⟩, by omega⟩
    have hi0 : i = 0 := by simp only [decide_eq_false_iff_not] at h5; omega
    subst hi0
    simp only [Nat.zero_add] at hac2 hpl2
    have hs := accP_one t (kidAt t 0).kids h4'
    have hsl := congrArg List.length hs
    simp only [Js, Jt, Ju, Jv, Jw, Jy, tabsL, Jz] at hsl
    refine Yt (hK21 _ _ ?_)
    refine Xx [3, 3, 3, 3, 3, 0, 3, 3, 3, 3, 3, 0, 3, 0, 1, 3, 3, 3] [true, true, true, true, true, true, true, true, true, true, true, true, true, true, true, true, true, true] [0, 0, 0, 6, 14, 30, 62, 0, 0, 384, 896, 1920, 3968, 8064, 16256, 32766, 65535, 131071] mix (by kernel_rfl) ?_
    have g := g.trans (G.drew _)
    try have gl2 := gl2.trans (G.drew _)
    replace B1 := B1.grow (G.drew _)
    refine Zc rfl (fun _ => Zk (Zb rfl)) ?_
    refine Zc rfl (fun _ => Zk (Zb rfl)) ?_
    refine Zc rfl (fun _ => Zk (Zb rfl)) ?_
    refine Zc rfl (fun _ => Ym Zl (Zb rfl) (Zb rfl) (fun _ => by omega) (fun _ => hpI)) ?_
    refine Zc rfl (fun _ => Zn Yk (Zb rfl)) ?_
    refine Zv rfl (Zs Ys (Zb rfl) (fun _ => (hcI.grow g) 1 _ rfl)) ?_
    refine Zc rfl (fun _ => Yy (Zb rfl) Zr (fun _ => by first | omega | (simp only [List.length_append, List.length_cons, List.length_nil, List.flatten_cons, List.flatten_nil, List.append_nil]; omega))) ?_
    refine Zc rfl (fun _ => Zk (Zb rfl)) ?_
    refine Zc rfl (fun _ => Zk (Zb rfl)) ?_
    refine Zc rfl (fun _ => Ym Zl (Zb rfl) (Zb rfl) (fun _ => by omega) (fun _ => hpI)) ?_
    refine Zc rfl (fun _ => Zn Zo (Zb rfl)) ?_
    refine Zv rfl (Zs Zm (Zb rfl) (fun _ => (hcI.grow g) 4 _ rfl)) ?_
    refine Zc rfl (fun _ => Ym Zl (Zb rfl) Zr (fun _ => by omega) (fun _ => hpA)) ?_
    refine Zv rfl (Zy Zq (Zb rfl) rfl (fun _ => hcA.grow g)) ?_
    refine Yb rfl (Zt Qa Yi (Zi (Zb rfl) (Zp)) rfl) (rtyp_ok _ _ _ (by first | omega | (simp only [Js, Jt, Ju, Jv, Jw, Jy, tabsL, Jz]; omega)) ⟨_, _, rfl⟩) ?_
    rintro v83 w83 ⟨rfl, g83⟩
    refine ⟨fun _ => g83, ?_⟩
    have g := g.trans (g83)
    try have gl2 := gl2.trans (g83)
    replace B1 := B1.grow (g83)
    refine Zc rfl (fun _ => Yy (Zb rfl) (Zb rfl) (fun _ => by first | omega | (simp only [List.length_append, List.length_cons, List.length_nil, List.flatten_cons, List.flatten_nil, List.append_nil]; omega))) ?_
    refine Zc rfl (fun _ => Yy (Zb rfl) (Zb rfl) (fun _ => by first | omega | (simp only [List.length_append, List.length_cons, List.length_nil, List.flatten_cons, List.flatten_nil, List.append_nil]; omega))) ?_
    refine Zc rfl (fun _ => Ze (Zb rfl)) ?_
    refine Zg (hK20 _ _ ?_)
    refine Zf [3, 3, 3] ?_
    refine Zc rfl (fun _ => Zk (Zb rfl)) ?_
    refine Zc rfl (fun _ => Xm (Zb rfl) Zr (fun _ => by first | omega | (simp only [List.length_append, List.length_cons, List.length_nil, List.flatten_cons, List.flatten_nil, List.append_nil]; omega))) ?_
    refine Zc rfl (fun _ => Ze (Zb rfl)) ?_
    refine Zj [(5, _, _), (7, _, _), (1, _, _), (2, _, _), (6, _, _), (50, _, _), (51, _, _), (52, _, _), (53, _, _), (54, _, _), (55, _, _), (56, _, _), (57, _, _), (58, _, _)] (Za rfl (Za rfl (Za rfl (Za rfl (Za rfl (Za rfl (Za rfl (Za rfl (Za rfl (Za rfl (Za rfl (Za rfl (Za rfl (Za rfl (Zd _))))))))))))))) ?_
    refine Zg (fun a ha => ?_)
    rw [hs] at ha
    exact ⟨_, ha, ⟨h4', gl2⟩, by omega⟩
  replace h4' : i = (kidAt t 0).kids.length := by simp only [decide_eq_false_iff_not] at h4; omega
  subst h4'
  have hacE := accP_eq t (kidAt t 0).kids (kidAt t 0).kids.length
  rw [List.take_length] at hacE
  refine Xz rfl (hK16 _ _ ?_)
  refine Zh fun K23 hK23 => ?_
  refine Zf [3, 3, 3] ?_
  refine Zc rfl (fun _ => Zk (Zb rfl)) ?_
  refine Zc rfl (fun _ => Yy (Zb rfl) Zr (fun _ => by first | omega | (simp only [List.length_append, List.length_cons, List.length_nil, List.flatten_cons, List.flatten_nil, List.append_nil]; omega))) ?_
  refine Zc rfl (fun _ => Ze (Zb rfl)) ?_
  refine Zg (hK23 _ _ ?_)
  refine Zh fun K24 hK24 => ?_
  refine Zh fun K25 hK25 => ?_
  refine Zf [3, 0, 3, 3, 0, 3] ?_
  refine Zc rfl (fun _ => Zn Zo (Zb rfl)) ?_
  refine Zv rfl (Zs Zm (Zb rfl) (fun _ => B1.at_ rfl)) ?_
  refine Zc rfl (fun _ => Ym Zl (Zb rfl) Zr (fun _ => by omega) (fun _ => hp1)) ?_
  refine Zc rfl (fun _ => Zn Yj (Zb rfl)) ?_
  refine Zv rfl (Zs Yv (Zb rfl) (fun _ => (hc1.grow g) 0 _ rfl)) ?_
  refine Zc rfl (fun _ => Uz (Zb rfl) Zr) ?_
  refine Zg (hK25 _ _ ?_)
  refine Ya (Zb rfl) (fun h6 => ?_) (fun h6 => ?_)
  · replace h6 : decide ((kidAt t 1).kind = 9) = false := by simpa using h6
    rw [h6, cond_false] at e hlen
    simp only [Js, Jt, Ju, Jv, Jw, Jy, tabsL, Jz] at hlen
    refine Zf [3, 3, 0, 3, 0, 1, 3, 3, 3] ?_
    refine Zc rfl (fun _ => Zk (Zb rfl)) ?_
    refine Zc rfl (fun _ => Zn Zo (Zb rfl)) ?_
    refine Zv rfl (Zs Zm (Zb rfl) (fun _ => B1.at_ rfl)) ?_
    refine Zc rfl (fun _ => Ym Zl (Zb rfl) Zr (fun _ => by omega) (fun _ => hp1)) ?_
    refine Zv rfl (Zy Zq (Zb rfl) rfl (fun _ => hc1.grow g)) ?_
    refine Yb rfl (Zt Qa Yi (Zi (Zb rfl) (Zp)) rfl) (rtyp_ok _ _ _ (by first | omega | (simp only [Js, Jt, Ju, Jv, Jw, Jy, tabsL, Jz]; omega)) ⟨_, _, rfl⟩) ?_
    rintro v99 w99 ⟨rfl, g99⟩
    refine ⟨fun _ => g99, ?_⟩
    have g := g.trans (g99)
    try have gl2 := gl2.trans (g99)
    replace B1 := B1.grow (g99)
    refine Zc rfl (fun _ => Yy (Zb rfl) Zr (fun _ => by first | omega | (simp only [List.length_append, List.length_cons, List.length_nil, List.flatten_cons, List.flatten_nil, List.append_nil]; omega))) ?_
    refine Zc rfl (fun _ => Yy (Zb rfl) (Zb rfl) (fun _ => by first | omega | (simp only [List.length_append, List.length_cons, List.length_nil, List.flatten_cons, List.flatten_nil, List.append_nil]; omega))) ?_
    refine Zc rfl (fun _ => Ze (Zb rfl)) ?_
    refine Zg (hK24 _ _ ?_)
    refine Zh fun K26 hK26 => ?_
    refine Zf [3, 3, 0, 3, 0, 1, 3, 3] ?_
    refine Zc rfl (fun _ => Zk (Zb rfl)) ?_
    refine Zc rfl (fun _ => Zn Zo (Zb rfl)) ?_
    refine Zv rfl (Zs Zm (Zb rfl) (fun _ => B1.at_ rfl)) ?_
    refine Zc rfl (fun _ => Ym Zl (Zb rfl) Zr (fun _ => by omega) (fun _ => hp2)) ?_
    refine Zv rfl (Zy Zq (Zb rfl) rfl (fun _ => hc2.grow g)) ?_
    refine Yb rfl (Zt Ug Yi (Zi (Zb rfl) (Zi Zr (Zp))) rfl) (hB2 _ _ D 0 _ (hk2.grow g) (by first | omega | (simp only [Js, Jt, Ju, Jv, Jw, Jy, tabsL, Jz]; omega)) (by omega)) ?_
    rintro v107 w107 ⟨rfl, g107⟩
    refine ⟨fun _ => g107, ?_⟩
    have g := g.trans (g107)
    try have gl2 := gl2.trans (g107)
    replace B1 := B1.grow (g107)
    refine Zc rfl (fun _ => Yy (Zb rfl) (Zb rfl) (fun _ => by first | omega | (simp only [List.length_append, List.length_cons, List.length_nil, List.flatten_cons, List.flatten_nil, List.append_nil]; omega))) ?_
    refine Zc rfl (fun _ => Ze (Zb rfl)) ?_
    refine Zg (hK26 _ _ ?_)
    refine Ye (Yf rfl rfl ?_)
    exact ⟨by rw [e, hacE], g⟩
  replace h6 : decide ((kidAt t 1).kind = 9) = true := by simpa using h6
  rw [h6, cond_true] at e hlen
  rw [List.append_nil] at e
  refine Yt (hK24 _ _ ?_)
  refine Zh fun K26 hK26 => ?_
  refine Zf [3, 3, 0, 3, 0, 1, 3, 3] ?_
  refine Zc rfl (fun _ => Zk (Zb rfl)) ?_
  refine Zc rfl (fun _ => Zn Zo (Zb rfl)) ?_
  refine Zv rfl (Zs Zm (Zb rfl) (fun _ => B1.at_ rfl)) ?_
  refine Zc rfl (fun _ => Ym Zl (Zb rfl) Zr (fun _ => by omega) (fun _ => hp2)) ?_
  refine Zv rfl (Zy Zq (Zb rfl) rfl (fun _ => hc2.grow g)) ?_
  refine Yb rfl (Zt Ug Yi (Zi (Zb rfl) (Zi Zr (Zp))) rfl) (hB2 _ _ D 0 _ (hk2.grow g) (by first | omega | (simp only [Js, Jt, Ju, Jv, Jw, Jy, tabsL, Jz]; omega)) (by omega)) ?_
  rintro v107 w107 ⟨rfl, g107⟩
  refine ⟨fun _ => g107, ?_⟩
  have g := g.trans (g107)
  try have gl2 := gl2.trans (g107)
  replace B1 := B1.grow (g107)
  refine Zc rfl (fun _ => Yy (Zb rfl) (Zb rfl) (fun _ => by first | omega | (simp only [List.length_append, List.length_cons, List.length_nil, List.flatten_cons, List.flatten_nil, List.append_nil]; omega))) ?_
  refine Zc rfl (fun _ => Ze (Zb rfl)) ?_
  refine Zg (hK26 _ _ ?_)
  refine Ye (Yf rfl rfl ?_)
  exact ⟨by rw [e, hacE], g⟩
end Go.Rk
namespace Go.Rk
open Go Go.RowKit
set_option linter.unusedVariables false
def bnd (N : Nat) (t : Nd) : Nat := weight t + count t * (200 + 4 * N)
theorem sum_bnd (N : Nat) : ∀ (l : List Nd), (l.map (bnd N)).sum = (l.map weight).sum + (l.map count).sum * (200 + 4 * N)
  | [] => by simp
  | t :: l => by simp only [List.map_cons, List.sum_cons, sum_bnd N l, bnd]; rw [Nat.add_mul]; omega
theorem bnd_eq (N : Nat) (t : Nd) : bnd N t = 1 + t.text.length + (200 + 4 * N) + (t.kids.map (bnd N)).sum := by
  rw [sum_bnd, bnd, weight_eq, Wt, Nat.add_mul]; omega
theorem Uy {b : Bool} {x y : List UInt8} {n : Nat} (hx : x.length ≤ n) (hy : y.length ≤ n) : (bif b then x else y).length ≤ n := by cases b <;> assumption
theorem parX_le (q : Bool) (s : List UInt8) : (parX q s).length ≤ s.length + 2 := by cases q <;> simp [parX]
theorem digL_le (n : Nat) : (digL n).length ≤ 20 := by
  have : ∀ f n, (digF f n).length ≤ f := by
    intro f
    induction f with
    | zero => intro n; simp [digF]
    | succ f ih => intro n; rw [digF]; cases Nat.blt n 10
                   · have := ih (n / 10); simp; omega
                   · simp
  exact this 20 n
theorem typeX_le (t : Nd) : (typeX t).length ≤ t.text.length + 9 := by
  unfold typeX
  refine Uy (by simp) (Uy (by simp) (Uy (by simp) (by omega)))
theorem fm_le {ks : List Nd} {f : Nd → List UInt8} {g : Nd → Nat} (h : ∀ y ∈ ks, (f y).length ≤ g y) : (ks.flatMap f).length ≤ (ks.map g).sum := by
  induction ks with
  | nil => simp
  | cons a l ih => have := h a List.mem_cons_self; have := ih fun y hy => h y (List.mem_cons_of_mem _ hy); rw [List.flatMap_cons, List.length_append, List.map_cons, List.sum_cons]; omega
theorem jn_le {ks : List Nd} {f : Nd → List UInt8} {g : Nd → Nat} (h : ∀ y ∈ ks, (f y).length + 2 ≤ g y) : (joinX (ks.map f)).length ≤ (ks.map g).sum := by
  cases ks with
  | nil => simp [joinX]
  | cons a l =>
    have h0 := h a List.mem_cons_self
    have : ((l.map f).flatMap fun u => [44, 32] ++ u).length ≤ (l.map g).sum := by
      rw [List.flatMap_map]; exact fm_le fun y hy => by have := h y (List.mem_cons_of_mem _ hy); simp; omega
    rw [List.map_cons, joinX, List.length_append]; simp only [List.map_cons, List.sum_cons]; omega
theorem get3_le : ∀ (l : List Nat), l.getD 0 0 + l.getD 1 0 + l.getD 2 0 ≤ l.sum
  | [] => by simp
  | [a] => by simp
  | [a, b] => by simp
  | a :: b :: c :: l => by simp; omega
theorem tabs_le (k : Nat) : (tabsL k).length = k := by simp [tabsL]
structure TxB (N : Nat) (t : Nd) (k : Nat) : Prop where
  ex : ((txT t).ex k).length + N + 10 ≤ bnd N t
  st : ((txT t).st k).length + N + 10 ≤ bnd N t
  cs : ((txT t).cs k).length + N + 10 ≤ bnd N t
  ls : ((txT t).ls k).length ≤ bnd N t
theorem ls_le {N : Nat} {t : Nd} {k : Nat} (hk : k ≤ N) (h : ∀ y ∈ t.kids, ((txT y).st k).length + N + 10 ≤ bnd N y) : ((txT t).ls k).length ≤ (t.kids.map (bnd N)).sum := by
  rw [ls_eq]
  exact fm_le fun y hy => by have := h y hy; simp only [List.length_append, tabs_le, List.length_cons, List.length_nil]; omega
set_option maxHeartbeats 2000000 in
theorem tx_le (N : Nat) : ∀ (t : Nd) (k : Nat), k + count t ≤ N → TxB N t k := by
  refine Nd.ind fun t ih k hk => ?_
  have S : ∀ y ∈ t.kids, TxB N y k := fun y hy => ih y hy k (by have := Wk hy; omega)
  have S1 : ∀ y ∈ t.kids, TxB N y (k + 1) := fun y hy => ih y hy (k + 1) (by have := Wk hy; omega)
  have hb := bnd_eq N t
  obtain ⟨s, hs⟩ : ∃ s, s = (t.kids.map (bnd N)).sum := ⟨_, rfl⟩
  obtain ⟨b, hbd⟩ : ∃ b : Nat → Nat, b = fun i => (t.kids.map (bnd N)).getD i 0 := ⟨_, rfl⟩
  have h3 : b 0 + b 1 + b 2 ≤ s := by rw [hbd, hs]; exact get3_le _
  obtain ⟨x, hx⟩ : ∃ x : Nat → Tx, x = fun i => (t.kids.map txT).getD i tx0 := ⟨_, rfl⟩
  have hin : ∀ i (h : i < t.kids.length), x i = txT t.kids[i] ∧ b i = bnd N t.kids[i] := fun i h => by
    rw [hx, hbd]; simp [List.getD_eq_getElem?_getD, List.getElem?_eq_getElem h]
  have hout : ∀ i, ¬ i < t.kids.length → x i = tx0 ∧ b i = 0 := fun i h => by
    rw [hx, hbd]; simp only [List.getD_eq_getElem?_getD, List.getElem?_map]; rw [List.getElem?_eq_none (by omega)]; simp
  have xe : ∀ i, ((x i).ex k).length ≤ b i := fun i => by
    by_cases h : i < t.kids.length
    · rw [(hin i h).1, (hin i h).2]; have := (S _ (List.getElem_mem h)).ex; omega
    · rw [(hout i h).1]; exact Nat.zero_le _
  have xs : ∀ i, ((x i).st k).length ≤ b i := fun i => by
    by_cases h : i < t.kids.length
    · rw [(hin i h).1, (hin i h).2]; have := (S _ (List.getElem_mem h)).st; omega
    · rw [(hout i h).1]; exact Nat.zero_le _
  have xl : ∀ i, ((x i).ls (k + 1)).length ≤ b i := fun i => by
    by_cases h : i < t.kids.length
    · rw [(hin i h).1, (hin i h).2]
      exact (S1 _ (List.getElem_mem h)).ls
    · rw [(hout i h).1]; exact Nat.zero_le _
  have xb : ∀ i, (blkX (x i) k).length ≤ b i + k + 3 := fun i => by have := xl i; simp only [blkX, List.length_append, tabs_le, List.length_cons, List.length_nil]; omega
  have ty : (typeX (kidAt t 0)).length ≤ b 0 + 9 := by
    have := typeX_le (kidAt t 0)
    by_cases h : 0 < t.kids.length
    · rw [(hin 0 h).2]; rw [Wc h] at this ⊢; have := bnd_eq N t.kids[0]; omega
    · rw [kidAt_out h] at this ⊢; exact Nat.le_trans this (by show 0 + 9 ≤ _; omega)
  have xo : ∀ i, (oprX t x i k).length ≤ b i + 2 := fun i => by have := parX_le (decide ((kidAt t i).kind = 32)) ((x i).ex k); have := xe i; unfold oprX; omega
  have xba : (basX t x k).length ≤ b 0 + 2 := by have := parX_le ((decide ((kidAt t 0).kind = 32) || decide ((kidAt t 0).kind = 31)) || decide ((kidAt t 0).kind = 33)) ((x 0).ex k); have := xe 0; unfold basX; omega
  have xj : (basX t x k).length + (joinX (((t.kids.map txT).drop 1).map fun y => y.ex k)).length ≤ s + 2 := by
    cases hks : t.kids with
    | nil => simp only [List.map_nil, List.drop_nil, joinX, List.length_nil]; omega
    | cons a l =>
      have h1 : (joinX ((l.map txT).map fun y => y.ex k)).length ≤ (l.map (bnd N)).sum := by
        rw [List.map_map]; exact jn_le fun y hy => by have := (S y (by rw [hks]; exact List.mem_cons_of_mem _ hy)).ex; show ((txT y).ex k).length + 2 ≤ _; omega
      have h2 : b 0 = bnd N a := by rw [hbd]; simp [hks]
      have h4 : s = bnd N a + (l.map (bnd N)).sum := by rw [hs, hks]; simp
      simp only [List.map_cons, List.drop_succ_cons, List.drop_zero]; omega
  have x0 := xe 0; have x1 := xe 1; have x2 := xe 2; have o0 := xo 0; have o1 := xo 1; have y0 := xs 0; have y2 := xs 2; have z1 := xb 1; have z0 := xb 0; have z2 := xb 2; have l1 := xl 1
  have hbl : ((t.kids.map txT).flatMap fun y => (tabsL (k + 1) ++ y.st (k + 1)) ++ [10]).length ≤ s := by
    rw [List.flatMap_map, hs]; exact fm_le fun y hy => by have := (S1 y hy).st; have := count_pos y; have := Wk hy; simp only [List.length_append, tabs_le, List.length_cons, List.length_nil]; omega
  have hcl : ((t.kids.map txT).flatMap fun y => y.cs k).length ≤ s := by
    rw [List.flatMap_map, hs]; exact fm_le fun y hy => by have := (S y hy).cs; omega
  have hcp := count_pos t
  have E : (exX t x (t.kids.map txT) k).length ≤ 1 + t.text.length + (100 + 3 * N) + s := by
    unfold exX
    have := digL_le t.num.toNat
    generalize digL t.num.toNat = dg at this ⊢
    repeat' (refine Uy ?_ ?_)
    all_goals first
      | omega
      | (simp only [List.length_append, List.length_cons, List.length_nil]; omega)
      | (refine Uy ?_ ?_ <;> first | omega | (simp only [List.length_append, List.length_cons, List.length_nil]; omega))
  have V : (varX t x k).length ≤ 1 + t.text.length + (100 + 3 * N) + s := by
    unfold varX
    have : (bif decide ((kidAt t 1).kind = 9) then [] else [32, 61, 32] ++ (x 1).ex k).length ≤ b 1 + 3 := Uy (by simp) (by simp; omega)
    simp only [List.length_append, List.length_cons, List.length_nil]; omega
  have I : (ifX t x k).length ≤ 1 + t.text.length + (100 + 3 * N) + s := by
    unfold ifX
    have : (bif decide ((kidAt t 2).kind = 10) then [32, 101, 108, 115, 101, 32] ++ blkX (x 2) k else bif decide ((kidAt t 2).kind = 18) then [32, 101, 108, 115, 101, 32] ++ (x 2).st k else []).length ≤ b 2 + k + 9 := Uy (by simp; omega) (Uy (by simp; omega) (by simp))
    simp only [List.length_append, List.length_cons, List.length_nil]; omega
  have T : (stX t x (t.kids.map txT) k).length ≤ 1 + t.text.length + (100 + 3 * N) + s := by
    unfold stX
    repeat' (refine Uy ?_ ?_)
    all_goals first
      | exact V
      | exact I
      | omega
      | (simp only [List.length_append, List.length_cons, List.length_nil, tabs_le]; omega)
      | (refine Uy ?_ ?_ <;> first | omega | (simp only [List.length_append, List.length_cons, List.length_nil, tabs_le]; omega))
  have C : (csX t x k).length ≤ 1 + t.text.length + (100 + 3 * N) + s := by
    unfold csX
    have : (bif decide ((kidAt t 0).kind = 9) then tabsL k ++ [100, 101, 102, 97, 117, 108, 116, 58, 10] else ((tabsL k ++ [99, 97, 115, 101, 32]) ++ (x 0).st k) ++ [58, 10]).length ≤ b 0 + k + 20 := Uy (by simp [tabs_le]; omega) (by simp [tabs_le]; omega)
    rw [List.length_append]; omega
  subst hx
  refine ⟨?_, ?_, ?_, ?_⟩
  · rw [Wq]; show (exX t _ (t.kids.map txT) k).length + N + 10 ≤ _; omega
  · rw [Wq]; show (stX t _ (t.kids.map txT) k).length + N + 10 ≤ _; omega
  · rw [Wq]; exact (by omega : (csX t (fun i => (t.kids.map txT).getD i tx0) k).length + N + 10 ≤ bnd N t)
  · have := ls_le (N := N) (t := t) (k := k) (by omega) fun y hy => (S y hy).st; omega
theorem tyk_le (N : Nat) (f : Nd) (i : Nat) : (typeX (kidAt f i)).length ≤ (f.kids.map (bnd N)).getD i 0 + 9 := by
  have := typeX_le (kidAt f i)
  by_cases h : i < f.kids.length
  · rw [Wc h] at this ⊢; have := bnd_eq N f.kids[i]; simp only [List.getD_eq_getElem?_getD, List.getElem?_map, List.getElem?_eq_getElem h, Option.map_some, Option.getD_some]; omega
  · rw [kidAt_out h] at this ⊢; exact Nat.le_trans this (by show 0 + 9 ≤ _; omega)
theorem fieldX_le (N : Nat) (f : Nd) : (fieldX f).length + 190 ≤ bnd N f := by
  have h1 := tyk_le N f 0
  have h2 := get3_le (f.kids.map (bnd N))
  have h3 := bnd_eq N f
  simp only [fieldX, List.length_append, List.length_cons, List.length_nil]; omega
set_option maxHeartbeats 1000000 in
theorem declX_le {N : Nat} {t : Nd} (h : count t ≤ N) : (declX t).length + 1 ≤ bnd N t := by
  have hb := bnd_eq N t
  have h3 := get3_le (t.kids.map (bnd N))
  have t1 := tyk_le N t 1
  have e0 := (tx_le N t 0 (by omega)).st
  have hf : (t.kids.flatMap fun f => (((([9] ++ f.text) ++ [32]) ++ typeX (kidAt f 0)) ++ [10])).length ≤ (t.kids.map (bnd N)).sum := fm_le fun y hy => by
    have := fieldX_le N y
    simp only [fieldX, List.length_append, List.length_cons, List.length_nil] at this ⊢; omega
  have hp : (joinX ((kidAt t 0).kids.map fieldX)).length ≤ (t.kids.map (bnd N)).getD 0 0 := by
    have h1 : (joinX ((kidAt t 0).kids.map fieldX)).length ≤ ((kidAt t 0).kids.map (bnd N)).sum := jn_le fun y hy => by have := fieldX_le N y; omega
    by_cases h : 0 < t.kids.length
    · have h2 := bnd_eq N (kidAt t 0)
      have h4 : (t.kids.map (bnd N)).getD 0 0 = bnd N (kidAt t 0) := by rw [Wc h]; simp [List.getD_eq_getElem?_getD, List.getElem?_eq_getElem h]
      omega
    · rw [kidAt_out h]; simp [nd0, Nd.kids, joinX]
  have hl : (blkX (txT (kidAt t 2)) 0).length ≤ (t.kids.map (bnd N)).getD 2 0 + 3 := by
    have h1 : ((txT (kidAt t 2)).ls (0 + 1)).length ≤ (t.kids.map (bnd N)).getD 2 0 := by
      by_cases h : 2 < t.kids.length
      · have h4 : (t.kids.map (bnd N)).getD 2 0 = bnd N (kidAt t 2) := by rw [Wc h]; simp [List.getD_eq_getElem?_getD, List.getElem?_eq_getElem h]
        rw [h4]; exact (tx_le N (kidAt t 2) 1 (by have := Yp h; omega)).ls
      · rw [kidAt_out h]; exact Nat.le_trans (by decide : _ ≤ 0) (Nat.zero_le _)
    simp only [blkX, List.length_append, tabs_le, List.length_cons, List.length_nil]; omega
  have hr : (bif decide ((kidAt t 1).kind = 9) then [] else typeX (kidAt t 1) ++ [32]).length ≤ (t.kids.map (bnd N)).getD 1 0 + 10 := Uy (Nat.zero_le _) (by rw [List.length_append]; show _ + 1 ≤ _; omega)
  unfold declX
  refine Nat.add_le_of_le_sub (by omega) (Uy ?_ (Uy ?_ ?_))
  · omega
  · simp only [List.length_append, List.length_cons, List.length_nil] at hf ⊢; omega
  · simp only [List.length_append, List.length_cons, List.length_nil]; omega
theorem printX_le (t : Nd) : (printX t).length ≤ bnd (count t) t := by
  unfold printX
  refine Uy ?_ (by simp)
  have hb := bnd_eq (count t) t
  have : (t.kids.flatMap fun d => declX d ++ [10]).length ≤ (t.kids.map (bnd (count t))).sum := fm_le fun y hy => by
    have := declX_le (N := count t) (t := y) (by have := Wk hy; omega)
    simp only [List.length_append, List.length_cons, List.length_nil]; omega
  omega
end Go.Rk
namespace Go.Rk
open Go Go.RowKit
set_option linter.unusedVariables false
theorem rdigs_ok (n : Int) (w : World) (h0 : 0 ≤ n) (h1 : n ≤ 9223372036854775807) : Ret PP fn_r03_Digits #[.int .i64 n] w fun r w' => r = Str (digL n.toNat) ∧ G w w' := by
  obtain ⟨m, rfl⟩ := Int.eq_ofNat_of_zero_le h0
  rw [digL_dec (by omega)]
  exact rdigits_ok m w (by omega)
theorem rpr_ok (t : Nd) (v : Value) (D : Nat → Prop) (w : World) (hk : Kd w D t.kids v) (hcn : count t ≤ 1000000) (hok : okNd t) (hlen : (printX t).length < 100000000) : Ret PP fn_r03_Print #[ndV t v] w fun r w' => r = Str (printX t) ∧ G w w' :=
  rprint_ok (fun t v D w hx hok hk hc hl => rdecl_ok (rpk_all rdigs_ok) t v D w hx hok hk hc hl) t v D w hk hcn hok hlen
theorem print_short {t : Nd} (hc : count t ≤ 300) (hw : weight t ≤ 1048576) : (printX t).length < 100000000 := by
  have h := printX_le t
  have : count t * (200 + 4 * count t) ≤ 300 * 1400 := Nat.mul_le_mul hc (by omega)
  unfold bnd at h; omega
theorem sprint_law (t : Nd) (v : Value) (D : Nat → Prop) (w : World) (hL : Laid w) (hb3 : 6 ≤ w.heap.size) (hT : TabP w) (hk : Kd w D t.kids v) (hok : okNd t) (hw : weight t ≤ 1048576) : Ret PP fn_l03_SyntaxPrint #[ndV t v] w fun r w' => r = .bool true ∧ G w w' := by
  have g := G.refl w
  have hln := Vs t
  have hc := Nat.le_trans (count_le_weight t) hw
  have hcc : decide ((300 : Int) < (count t : Nat)) = false → count t ≤ 300 := fun h => by simp only [decide_eq_false_iff_not] at h; omega
  refine Yl (m := 15) func_l03_SyntaxPrint rfl rfl [(0, True, _)] (Za rfl (Zd _)) ?_
  refine Zh fun K1 hK1 => ?_
  refine Zf [1, 3] ?_
  refine Xt rfl (Zb rfl) rfl ?_
  intro b1 w1 N1
  have l1 := N1.ge g
  have g := g.trans (N1.g)
  have B1 := N1.blk
  refine Zc rfl (fun _ => Ze Zr) ?_
  refine Zj [(1, _, _), (2, _, _)] (Za rfl (Za rfl (Zd _))) ?_
  refine Zg (hK1 _ _ ?_)
  refine Zh fun K2 hK2 => ?_
  refine Zh fun K3 hK3 => ?_
  refine Zf [1, 3] ?_
  refine Yb rfl (Zt go_l03_awake Yi (Zp) rfl) (awake03_ok _ (hL.grow g) (by have := g.size; omega) (hT.grow g)) ?_
  rintro v3 w3 ⟨rfl, g3⟩
  refine ⟨fun _ => g3, ?_⟩
  have g := g.trans (g3)
  replace B1 := B1.grow (g3)
  refine Zc rfl (fun _ => Uc (Zb rfl)) ?_
  refine Zj [(1, _, _), (2, _, _), (4, _, _)] (Za rfl (Za rfl (Za rfl (Zd _)))) ?_
  refine Zg (hK3 _ _ ?_)
  refine Ya (Zb rfl) (fun h1 => ?_) (fun h1 => ?_)
  · exfalso; cases h1
    done
  (try simp only [bsimp] at h1)
  refine Yt (hK2 _ _ ?_)
  refine Yn [(1, _, _), (2, _, _)] (Za rfl (Za rfl (Zd _))) ?_
  refine Zh fun K4 hK4 => ?_
  skip
  refine Xx [0, 1, 3, 0, 1, 1, 0, 1, 3, 3, 3] [true, true, true, true, true, true, false, true, true, true, true] [0, 1, 3, 7, 15, 31, 7, 127, 255, 511, 1023] mix (by kernel_rfl) ?_
  have g := g.trans (G.drew _)
  replace B1 := B1.grow (G.drew _)
  have C1 := B1
  refine Zv rfl (Zy Zq (Zb rfl) rfl (fun _ => B1.row)) ?_
  refine Xh rfl (Zt go_l03_great Yi (Zi (Zb rfl) (Zp)) rfl) (great_ok t v D _ (hk.grow g) hc) (fun w6 g6 => ?_)
  have g := g.trans (g6)
  replace B1 := B1.grow (g6)
  refine Zc rfl (fun _ => Zk (Zb rfl)) ?_
  refine Yx rfl rfl rfl (Zy Zq (Zb rfl) rfl (fun _ => B1.row)) ?_
  refine sr_callq rfl rfl rfl (fun _ => Zt go_r03_Copy Yi (Zi (Yc rfl id) (Zp)) rfl) (fun hc => rcopy_ok t v D _ (hk.grow g) (by have := hcc hc.2; omega) (by have := hcc hc.2; omega)) ?_
  intro v9 w9 hv9 g9
  have g := g.trans (g9)
  replace B1 := B1.grow (g9)
  refine Xe rfl rfl rfl (fun _ => (Zt go_syntax_Print Yi (Zi (Yc rfl id) (Zp)) rfl)) (fun hc => (by obtain ⟨p9, c9, e9, k9⟩ := hv9 hc; rw [e9]; exact print_ok t _ _ _ (hL.grow g) (by have := g.size; omega) (hT.grow g) k9 (by have := hcc hc.2; omega) hok (print_short (hcc hc.2) hw))) (fun w10 g10 => ?_)
  have g := g.trans (g10)
  replace B1 := B1.grow (g10)
  refine sr_rdg0 rfl rfl rfl (Zy Zq (Zb rfl) rfl (fun _ => C1.row)) ?_
  refine Xe rfl rfl rfl (fun _ => (Zt go_r03_Print Yi (Zi (Yc rfl id) (Zp)) rfl)) (fun hc => rpr_ok t v D _ (hk.grow g) (by have := hcc hc.2; omega) hok (print_short (hcc hc.2) hw)) (fun w12 g12 => ?_)
  have g := g.trans (g12)
  replace B1 := B1.grow (g12)
  refine Zw rfl rfl rfl (fun _ => Yu (Yc rfl id) (Yc rfl id)) ?_
  refine Zc rfl (fun _ => Xb (Zb rfl) (Yc rfl id)) ?_
  refine Zc rfl (fun _ => Ze (Zb rfl)) ?_
  refine Zj [(2, _, _)] (Za rfl (Zd _)) ?_
  refine Zg (hK4 _ _ ?_)
  refine Ye (Yf rfl rfl ?_)
  refine ⟨congrArg Value.bool ?_, g⟩
  simp
end Go.Rk
