/- Merged texts of one road: Aut, ScanA, ScanB, ScanC, ScanD, LayP, ScanP, ScanE, ScanF, Tree, Name, TypA, TypB, TypC, Post, Y, Rng, Wgt, Open, RowF, Own, EngD, EngR, Rng2, Cpx, Fn, RefA, RefB, SynA, RefC, SynB, Gt. Conditions: each text's own. -/
import Derived.Test.YtapkdoacegpgaaaGreatDoorC01
import Derived.Shelf.LaysC
import Derived.Shelf.Strconv.ParseIntPublic10
import Derived.KernelRfl
import Derived.ChangeSame
import Derived.Below
import Derived.Test.YtapkdoacegpgaaaGreatDoorCards
import Derived.Test.YtapkdoacegpgaaaGreatDoorTie
import Derived.WalkKit
import Derived.ProofKit
import Derived.OpenShut
import Derived.Deep.DeepHandedRow
import Derived.Deep.DeepWitnessRowRef
import Derived.Lib.LaidTab
import Derived.Stop.LaidErr
import Derived.ShutString
import Derived.ChangeMaps5
import Derived.Test.YtapkdoacegpgaaaGreatDoorRows
import Derived.Deep.Slices
import Derived.Carry
import Derived.RangeFuncOwn
import Derived.MapKept
set_option linter.unusedSimpArgs false
set_option linter.unusedVariables false
namespace Go.Proofs
end Go.Proofs
namespace Go.Rk
open Go.Proofs
open Go Go.RowKit
 class FOF (s j:Nat) (o:outParam Nat):Prop where h:Xj PP s j=some o
 class TY1 (t:Nat):Prop where h:Qr PP t=true
 class TYA (t:Nat) (z:outParam Nat):Prop where h:Xma PP t=some z
 class TSZ (t:Nat) (z:outParam Nat):Prop where h:tySize PP t=some z
 class TZE (t:Nat) (z:outParam Value):Prop where h:zeroOf PP t=some z
 class TST (t:Nat):Prop where h:Xuc PP t=true
 class TFL (t:Nat) (z:outParam (List Nat)):Prop where h:Xfa PP t=some z
 class TUB (t:Nat):Prop where h:PP.underlying t=some .bool
 class TPL (t:Nat) (z:outParam (List (Nat×Nat))):Prop where h:Vj PP t=some z
 class TYE (t:Nat) (e z b:outParam Nat):Prop where h:tyElem PP t=some (e,z,b)
instance:FOF 24 0 0:=⟨Uva⟩
instance:FOF 24 1 1:=⟨Ymc⟩
instance:FOF 26 0 0:=⟨Xm⟩
instance:FOF 26 1 1:=⟨Yn⟩
instance:FOF 26 2 2:=⟨Vg⟩
instance:FOF 26 3 3:=⟨Wia⟩
instance:FOF 26 4 4:=⟨Zg⟩
instance:FOF 26 5 5:=⟨Wl⟩
instance:FOF 26 6 7:=⟨Qc⟩
instance:FOF 26 7 8:=⟨Xca⟩
instance:FOF 42 0 0:=⟨Wja⟩
instance:FOF 42 1 9:=⟨Jl⟩
instance:FOF 44 0 0:=⟨Qob⟩
instance:FOF 44 1 1:=⟨Qpb⟩
instance:FOF 44 2 3:=⟨Voa⟩
instance:FOF 44 3 4:=⟨Vpa⟩
instance:FOF 47 0 0:=⟨Xxa⟩
instance:FOF 47 1 1:=⟨Yja⟩
instance:FOF 65 0 0:=⟨Uo⟩
instance:FOF 65 1 1:=⟨Qn⟩
instance:FOF 65 2 2:=⟨Xga⟩
instance:FOF 65 3 3:=⟨Qwa⟩
instance:FOF 73 0 0:=⟨Wd⟩
instance:FOF 73 1 9:=⟨Yw⟩
instance:FOF 73 2 10:=⟨Zca⟩
instance:FOF 73 3 11:=⟨Vz⟩
instance:FOF 73 4 12:=⟨Wt⟩
instance:FOF 73 5 13:=⟨Zda⟩
instance:FOF 73 6 15:=⟨Qe⟩
instance:FOF 73 7 16:=⟨Ug⟩
instance:FOF 85 0 0:=⟨Jxa⟩
instance:FOF 85 1 1:=⟨Qu⟩
instance:FOF 85 2 2:=⟨Qrb⟩
instance:FOF 95 0 0:=⟨Jr⟩
instance:FOF 95 1 1:=⟨Ypa⟩
instance:FOF 95 2 3:=⟨Yqa⟩
instance:FOF 95 3 4:=⟨Yra⟩
instance:FOF 95 4 5:=⟨Js⟩
instance:FOF 101 0 0:=⟨Vq⟩
instance:FOF 101 1 1:=⟨Xc⟩
instance:FOF 101 2 2:=⟨Jz⟩
instance:FOF 101 3 3:=⟨Vta⟩
instance:FOF 131 0 0:=⟨Qsb⟩
instance:FOF 131 1 1:=⟨Qtb⟩
instance:FOF 146 0 0:=⟨Uhb⟩
instance:FOF 146 1 1:=⟨Uib⟩
instance:FOF 146 2 2:=⟨Ujb⟩
instance:TY1 2:=⟨Xgf⟩
instance:TY1 3:=⟨Yd⟩
instance:TY1 4:=⟨Jqa⟩
instance:TY1 5:=⟨Xhf⟩
instance:TY1 9:=⟨Yg⟩
instance:TY1 22:=⟨Zf⟩
instance:TY1 30:=⟨Yha⟩
instance:TY1 35:=⟨Xjc⟩
instance:TY1 39:=⟨Jsa⟩
instance:TY1 48:=⟨Xpe⟩
instance:TY1 49:=⟨Wka⟩
instance:TY1 54:=⟨Una⟩
instance:TY1 58:=⟨Jy⟩
instance:TY1 59:=⟨Zya⟩
instance:TY1 60:=⟨Vl⟩
instance:TY1 63:=⟨Qha⟩
instance:TY1 69:=⟨Qca⟩
instance:TY1 70:=⟨Yy⟩
instance:TY1 71:=⟨Jva⟩
instance:TY1 97:=⟨Xkc⟩
instance:TY1 102:=⟨Zzc⟩
instance:TY1 109:=⟨Uxe⟩
instance:TY1 119:=⟨Xnf⟩
instance:TY1 124:=⟨Jpc⟩
instance:TY1 127:=⟨Ugc⟩
instance:TY1 136:=⟨Wwc⟩
instance:TY1 140:=⟨Wxb⟩
instance:TY1 144:=⟨Zae⟩
instance:TY1 148:=⟨Xue⟩
instance:TYA 24 2:=⟨Xb⟩
instance:TYA 26 9:=⟨Zh⟩
instance:TYA 42 10:=⟨Xcb⟩
instance:TYA 44 5:=⟨Ync⟩
instance:TYA 47 2:=⟨Zra⟩
instance:TYA 65 4:=⟨Jua⟩
instance:TYA 73 17:=⟨Xha⟩
instance:TYA 79 13:=⟨Yoc⟩
instance:TYA 85 3:=⟨Wq⟩
instance:TYA 95 6:=⟨Yya⟩
instance:TYA 101 4:=⟨Ufc⟩
instance:TYA 122 27:=⟨Ypc⟩
instance:TYA 131 3:=⟨Vrd⟩
instance:TYA 146 3:=⟨Qub⟩
instance:TSZ 2 1:=⟨Uaf⟩
instance:TSZ 3 1:=⟨Va⟩
instance:TSZ 4 1:=⟨Jyc⟩
instance:TSZ 5 1:=⟨Udf⟩
instance:TSZ 9 1:=⟨Xif⟩
instance:TSZ 22 1:=⟨Jra⟩
instance:TSZ 24 2:=⟨Wi⟩
instance:TSZ 26 9:=⟨Jf⟩
instance:TSZ 30 1:=⟨Wra⟩
instance:TSZ 35 1:=⟨Zpb⟩
instance:TSZ 39 1:=⟨Zkb⟩
instance:TSZ 42 10:=⟨Wub⟩
instance:TSZ 44 5:=⟨Jqd⟩
instance:TSZ 47 2:=⟨Jta⟩
instance:TSZ 48 1:=⟨Uue⟩
instance:TSZ 49 1:=⟨Wsc⟩
instance:TSZ 54 1:=⟨Jic⟩
instance:TSZ 58 1:=⟨Vra⟩
instance:TSZ 59 1:=⟨Xdb⟩
instance:TSZ 60 1:=⟨Wsa⟩
instance:TSZ 63 1:=⟨Qua⟩
instance:TSZ 65 4:=⟨Zmb⟩
instance:TSZ 69 1:=⟨Qia⟩
instance:TSZ 70 1:=⟨Vm⟩
instance:TSZ 71 1:=⟨Jsb⟩
instance:TSZ 73 17:=⟨Xoa⟩
instance:TSZ 79 13:=⟨Jtd⟩
instance:TSZ 85 3:=⟨Qf⟩
instance:TSZ 95 6:=⟨Qxa⟩
instance:TSZ 97 1:=⟨Wtc⟩
instance:TSZ 101 4:=⟨Jmc⟩
instance:TSZ 102 1:=⟨Xlc⟩
instance:TSZ 109 1:=⟨Xlf⟩
instance:TSZ 119 1:=⟨Uff⟩
instance:TSZ 122 27:=⟨Jwd⟩
instance:TSZ 124 1:=⟨Ysd⟩
instance:TSZ 127 1:=⟨Jqc⟩
instance:TSZ 131 3:=⟨Jzd⟩
instance:TSZ 136 1:=⟨Uhc⟩
instance:TSZ 140 1:=⟨Ufb⟩
instance:TSZ 144 1:=⟨Xre⟩
instance:TSZ 146 3:=⟨Yac⟩
instance:TSZ 148 1:=⟨Uye⟩
instance:TZE 2 (.int .i64 0):=⟨Ubf⟩
instance:TZE 3 (.int .i64 0):=⟨Yqd⟩
instance:TZE 4 (.bool false):=⟨Jzc⟩
instance:TZE 5 (.int .u8 0):=⟨Uef⟩
instance:TZE 9 (.string ⟨#[]⟩):=⟨Xjf⟩
instance:TZE 22 (.slice none 0 0):=⟨Yrd⟩
instance:TZE 24 (.agg #[.int .i64 0,.string ⟨#[]⟩]):=⟨Wn⟩
instance:TZE 26 (.agg #[.int .i64 0,.string ⟨#[]⟩,.int .i64 0,.int .i64 0,.slice none 0 0,.int .i64 0,.string ⟨#[]⟩,.int .i64 0,.int .i64 0]):=⟨Zu⟩
instance:TZE 30 (.slice none 0 0):=⟨Jhc⟩
instance:TZE 35 (.slice none 0 0):=⟨Wrc⟩
instance:TZE 39 (.slice none 0 0):=⟨Zlb⟩
instance:TZE 42 (.agg #[.int .i64 0,.string ⟨#[]⟩,.int .i64 0,.int .i64 0,.slice none 0 0,.int .i64 0,.string ⟨#[]⟩,.int .i64 0,.int .i64 0,.int .i64 0]):=⟨Vw⟩
instance:TZE 44 (.agg #[.string ⟨#[]⟩,.int .i64 0,.string ⟨#[]⟩,.bool false,.bool false]):=⟨Qt⟩
instance:TZE 47 (.agg #[.int .i64 0,.int .i64 0]):=⟨Qd⟩
instance:TZE 48 (.slice none 0 0):=⟨Uve⟩
instance:TZE 49 (.int .i64 0):=⟨Jsd⟩
instance:TZE 54 (.map none):=⟨Jjc⟩
instance:TZE 58 (.nilFunc):=⟨Vsa⟩
instance:TZE 59 (.map none):=⟨Xeb⟩
instance:TZE 60 (.slice none 0 0):=⟨Jkc⟩
instance:TZE 63 (.pointer none):=⟨Qva⟩
instance:TZE 65 (.agg #[.slice none 0 0,.int .i64 0,.int .i64 0,.bool false]):=⟨Wba⟩
instance:TZE 69 (.pointer none):=⟨Qja⟩
instance:TZE 70 (.slice none 0 0):=⟨Uoa⟩
instance:TZE 71 (.slice none 0 0):=⟨Xkf⟩
instance:TZE 73 (.agg #[.int .i64 0,.string ⟨#[]⟩,.int .i64 0,.int .i64 0,.slice none 0 0,.int .i64 0,.string ⟨#[]⟩,.int .i64 0,.int .i64 0,.slice none 0 0,.int .i64 0,.int .i64 0,.slice none 0 0,.int .i64 0,.string ⟨#[]⟩,.int .i64 0,.int .i64 0]):=⟨Xpa⟩
instance:TZE 79 (.agg #[.string ⟨#[]⟩,.string ⟨#[]⟩,.string ⟨#[]⟩,.string ⟨#[]⟩,.string ⟨#[]⟩,.string ⟨#[]⟩,.string ⟨#[]⟩,.string ⟨#[]⟩,.string ⟨#[]⟩,.string ⟨#[]⟩,.string ⟨#[]⟩,.string ⟨#[]⟩,.string ⟨#[]⟩]):=⟨Jud⟩
instance:TZE 85 (.agg #[.int .i64 0,.string ⟨#[]⟩,.int .i64 0]):=⟨Wa⟩
instance:TZE 95 (.agg #[.string ⟨#[]⟩,.int .i64 0,.string ⟨#[]⟩,.int .i64 0,.int .i64 0,.int .i64 0]):=⟨Qp⟩
instance:TZE 97 (.pointer none):=⟨Wuc⟩
instance:TZE 101 (.agg #[.string ⟨#[]⟩,.int .i64 0,.slice none 0 0,.slice none 0 0]):=⟨Jnc⟩
instance:TZE 102 (.nilFunc):=⟨Xmc⟩
instance:TZE 109 (.int .u64 0):=⟨Xmf⟩
instance:TZE 119 (.nilIface):=⟨Ugf⟩
instance:TZE 122 (.agg #[.string ⟨#[]⟩,.string ⟨#[]⟩,.string ⟨#[]⟩,.string ⟨#[]⟩,.string ⟨#[]⟩,.string ⟨#[]⟩,.string ⟨#[]⟩,.string ⟨#[]⟩,.string ⟨#[]⟩,.string ⟨#[]⟩,.string ⟨#[]⟩,.string ⟨#[]⟩,.string ⟨#[]⟩,.string ⟨#[]⟩,.string ⟨#[]⟩,.string ⟨#[]⟩,.string ⟨#[]⟩,.string ⟨#[]⟩,.string ⟨#[]⟩,.string ⟨#[]⟩,.string ⟨#[]⟩,.string ⟨#[]⟩,.string ⟨#[]⟩,.string ⟨#[]⟩,.string ⟨#[]⟩,.string ⟨#[]⟩,.string ⟨#[]⟩]):=⟨Jxd⟩
instance:TZE 124 (.slice none 0 0):=⟨Ytd⟩
instance:TZE 127 (.slice none 0 0):=⟨Jrc⟩
instance:TZE 131 (.agg #[.string ⟨#[]⟩,.int .i64 0,.string ⟨#[]⟩]):=⟨Wwb⟩
instance:TZE 136 (.int .i64 0):=⟨Uic⟩
instance:TZE 140 (.pointer none):=⟨Ugb⟩
instance:TZE 144 (.slice none 0 0):=⟨Xse⟩
instance:TZE 146 (.agg #[.string ⟨#[]⟩,.string ⟨#[]⟩,.nilIface]):=⟨Ybc⟩
instance:TZE 148 (.pointer none):=⟨Uze⟩
instance:TYE 22 26 9 104:=⟨Zd⟩
instance:TYE 30 44 5 48:=⟨Xq⟩
instance:TYE 35 47 2 16:=⟨Wp⟩
instance:TYE 39 42 10 112:=⟨Xo⟩
instance:TYE 48 4 1 1:=⟨Wvb⟩
instance:TYE 60 85 3 32:=⟨Xf⟩
instance:TYE 70 95 6 64:=⟨Yp⟩
instance:TYE 71 3 1 8:=⟨Xda⟩
instance:TYE 124 24 2 24:=⟨Xqa⟩
instance:TYE 127 131 3 40:=⟨Xaa⟩
instance:TYE 144 5 1 1:=⟨Xte⟩
instance:TST 9:=⟨Yu⟩
instance:TFL 24 [0,1]:=⟨Vaa⟩
instance:TFL 47 [0,0]:=⟨Yia⟩
instance:TUB 4:=⟨Xne⟩
instance:TPL 24 [(0,1),(1,1)]:=⟨Ve⟩
instance:TPL 26 [(0,1),(1,1),(2,1),(3,1),(4,1),(5,2),(7,1),(8,1)]:=⟨Xn⟩
instance:TPL 42 [(0,9),(9,1)]:=⟨Vna⟩
instance:TPL 44 [(0,1),(1,2),(3,1),(4,1)]:=⟨Vqa⟩
instance:TPL 47 [(0,1),(1,1)]:=⟨Yka⟩
instance:TPL 65 [(0,1),(1,1),(2,1),(3,1)]:=⟨Wca⟩
instance:TPL 73 [(0,9),(9,1),(10,1),(11,1),(12,1),(13,2),(15,1),(16,1)]:=⟨Jwa⟩
instance:TPL 85 [(0,1),(1,1),(2,1)]:=⟨Qv⟩
instance:TPL 95 [(0,1),(1,2),(3,1),(4,1),(5,1)]:=⟨Xia⟩
instance:TPL 101 [(0,1),(1,1),(2,1),(3,1)]:=⟨Joc⟩
instance:TPL 131 [(0,1),(1,2)]:=⟨Wvc⟩
instance:TPL 146 [(0,1),(1,1),(2,1)]:=⟨Ycc⟩
theorem CL{Z:List PanicEntry→Act→World→Prop}{ops:List Oper}{cl:List Nat}{lv:List Bool}{W0:World}{n:Nat}{K:Act→World→Prop}{k:Nat}{rest:List Oper}{σ:List Ent}{w:World}{d:Nat}{ty:TypeId}{pos:String}{after:Array Edge}{f:FuncId}{xs:List Operand}{vs:List Value}{ats:Array TypeId}{R:Value→World→Prop}(hC:Ret PP f vs.toArray w R)
  (h:∀ v w',R v w'→(clOf cl k=1→G w w')∧SR PP Z ops cl lv W0 n K (k+1) rest ((d,True,v) :: σ) w') (hx:Qga n σ True xs vs:=by repeat first|exact aq0|refine aqc rfl ?_)
  (hb:(!Nat.beq (clOf cl k) 0 && !Nat.beq (clOf cl k) 3&&Nat.blt d n)=true:=by exact rfl) (hf:goFn PP f=true:=by kernel_rfl) :
  SR PP Z ops cl lv W0 n K k (⟨some d,.call { callee:=.value (.func f),args:=xs.toArray,argTypes:=ats },ty,pos,after,none⟩::rest) σ w:=Xva hb (Yl hf Vi hx (by simp)) hC h
theorem RC{p A B q:Prop}(h:A→B→q)(k:(A→B→q)→p:=by exact fun h=>⟨(by first|exact nw1|exact fun _=>ga),(by first|exact h (g.trans ga) (E.gt ga rfl)|exact h (gtg g ga) (E.grow ga)|exact h (g.trans ga) (E.grow ga))⟩):p:=k h
theorem EX{p:Prop}(h:p:=by first
  | exact Zc rfl
  | exact Xg
  | exact Zk rfl id
  | exact Zk rfl (fun h=>h.1)
  | exact ev_g
  | exact Vi
  | exact Zk rfl (fun h=>h.1.1)):p:=h
theorem CE{p:Prop}(h:p:=by first
  | exact E.g0.at_ rfl
  | exact E.g1.at_ rfl
  | exact E.g2.at_ rfl
  | exact E.g3.at_ rfl
  | exact E.g4.at_ rfl
  | exact E.g5.at_ rfl
  | exact E.g6.at_ rfl
  | exact E.g7.at_ rfl
  | exact E.g8.at_ rfl
  | exact E.g9.at_ rfl
  | exact E.g10.at_ rfl
  | exact E.g11.at_ rfl
  | exact E.g12.at_ rfl
  | exact h.B.at_ rfl
  | exact hB.at_ rfl
  | exact (hs.grow g).B.at_ rfl
  | exact hcell.one (i:=0) rfl
  | exact hcell.one (i:=1) rfl
  | exact hcell.one (i:=2) rfl
  | exact hcell.one (i:=3) rfl
  | exact hcell.one (i:=4) rfl
  | exact hcell.one (i:=5) rfl
  | exact hcell.one (i:=6) rfl
  | exact hcell.one (i:=7) rfl
  | exact hcell.one (i:=8) rfl
  | exact by assumption):p:=h
theorem ROW{p:Prop}(h:p:=by first
  | exact E.g0.row
  | exact E.g1.row
  | exact E.g2.row
  | exact E.g3.row
  | exact E.g4.row
  | exact E.g5.row
  | exact E.g6.row
  | exact E.g7.row
  | exact E.g8.row
  | exact E.g9.row
  | exact E.g10.row
  | exact E.g11.row
  | exact E.g12.row
  | exact hcell
  | exact hcell.grow g
  | exact by assumption
  | exact h.B.row.part 13 2
  | exact hcell.part 5 2
  | exact E.g0.row.part 5 2
  | exact E.g1.row.part 5 2
  | exact E.g2.row.part 5 2
  | exact E.g3.row.part 5 2
  | exact E.g4.row.part 5 2
  | exact E.g5.row.part 5 2
  | exact E.g6.row.part 5 2
  | exact E.g7.row.part 5 2
  | exact E.g8.row.part 5 2
  | exact E.g9.row.part 5 2
  | exact E.g10.row.part 5 2
  | exact E.g11.row.part 5 2
  | exact E.g12.row.part 5 2):p:=h
theorem PU{p:Prop}(h:p:=by first
  | (apply Zl;exact EX)
  | (apply Zn;exact FOF.h;exact EX)
  | (apply Yt;exact EX)
  | (apply Zla;exact EX;exact EX)
  | (apply Zz;exact EX;exact EX)
  | (apply Wk;exact EX;exact EX)
  | (apply Uwc;exact EX;exact EX)
  | (apply Xwb;exact EX)
  | (apply Jo;exact EX)
  | (apply Vha;exact TYE.h;exact EX)
  | (apply Yxc;exact EX;exact EX)
  | (apply Yaa;exact TST.h;exact EX)
  | (apply Xs;exact EX;exact rfl)
  | (apply Qog;exact EX;exact EX)
  | (apply Xvc;exact EX;exact EX)
  | (apply Zld;exact EX;exact EX)
  | (apply Zmd;exact EX;exact EX)
  | (apply Yz;exact TYE.h;exact EX;exact EX;exact (fun _=>by omega);exact fun _=>hpe)
  | (apply Jia;exact EX;exact EX;exact (fun _=>by omega))
  | (apply Jja;exact EX;exact EX;exact (fun _=>by omega))
  | (apply Znb;exact TFL.h;exact EX;exact EX;exact rfl)
  | (apply Qod;exact EX;exact EX)
  | (apply Vqf;exact TUB.h;exact EX;exact EX)
  | (apply Jj;exact TST.h;exact EX;exact EX;exact (fun _=>by omega))
  | (apply Zaf;exact TFL.h;exact EX;exact EX;exact rfl)
  | (apply Xxb;exact TST.h;exact EX;exact EX;exact EX;exact (fun _=>by omega))
  | (apply Vvd;exact TST.h;exact EX;exact EX;exact (fun _=>by omega))
  | (apply Qea;exact TYE.h;exact EX;exact EX;exact (fun _=>by omega))):p:=h
theorem LD{p:Prop}(h:p:=by first
  | (apply Zt;exact TY1.h;exact EX;exact fun _=>CE)
  | (apply Zy;exact TYA.h;exact EX;rotate_left;exact fun _=>ROW;exact rfl)):p:=h
def Qbc(σ:List Ent):List Nat→Option (List Ent)
 | []=>some []
 | k::ks=>match look σ k with
  | none=>none
  | some (c,v)=>match Qbc σ ks with
   | none=>none
   | some τ=>some ((k,c,v) :: τ)
theorem Jea{σ:List Ent}:∀ {ks:List Nat} {τ:List Ent},Qbc σ ks=some τ→Sub τ σ
 | [],τ,h=>by injection h with h;subst h;exact Zp _
 | k::ks,τ,h=>by
  unfold Qbc at h;split at h;cases h;rename_i c v hl;split at h;cases h;rename_i τ' hk;injection h with h;subst h;exact Za hl (Jea hk)
section
variable {P:Program} {Z:List PanicEntry→Act→World→Prop} {ops:List Oper} {cl:List Nat} {lv:List Bool} {W0:World} {n:Nat} {K:Act→World→Prop} {k:Nat} {rest:List Oper} {σ τ:List Ent} {w:World} {d:Nat} {op:Op} {ty:TypeId} {pos:String} {after:Array Edge} {v:Value} {N T:Act→World→Prop} {X:List (Nat×(Act→World→Prop))}
theorem SK(ks:List Nat)(h:SR P Z ops cl lv W0 n K k rest τ w)(hk:Qbc σ ks=some τ:=by exact rfl):SR P Z ops cl lv W0 n K k rest σ w:=Vc τ (Jea hk) h
theorem KC{c:Code}(ks:List Nat)(h:SC P n c N X T τ w)(hk:Qbc σ ks=some τ:=by exact rfl):SC P n c N X T σ w:=Zqa τ (Jea hk) h
theorem OR{t:Nat}{g:Bool}{y:Code}{b0:Bool}(ks:List Nat)(hy:g=false→SC P n y (fun a w'=>Kn n ((t,True,.bool b0) :: τ) a∧w'=w) X T σ w)(hN:∀ a,Kn n ((t,True,.bool (g || b0)) :: τ) a→N a w)(hk:Qbc σ (t::ks)=some ((t,True,.bool g) :: τ):=by exact rfl)(hx:look σ t=some (True,.bool g):=by exact rfl) :
  SC P n (.cond (.tmp t) .skip y) N X T σ w:=Vxd τ (Jea hk) hx hy hN
theorem TK{cl ms:List Nat}{row:RelX}{m:Nat}{L:List Nat}(ks:List Nat)(h:ST P Z ops cl ms row n K m L τ w)(hk:Qbc σ ks=some τ:=by exact rfl):ST P Z ops cl ms row n K m L σ w:=Ula τ (Jea hk) h
theorem WK{f:FuncId}{fn:Func}{c:Code}{args:List Value}{R:Value→World→Prop}(m:Nat)(ks:List Nat)(hf:P.funcs[f]? = some fn)(h:SC P m c (fun a w=>bodyPost P fn (fun e w'=>∃ v,e = .returned v∧R v w') .normal a w) [] (fun a w=>bodyPost P fn (fun e w'=>∃ v,e = .returned v∧R v w') .ret a w) τ w)
  (hb:fn.body=some c:=by exact rfl) (hm:args.length+(fn.ntmps-args.length)=m:=by exact rfl) (hk:Qbc (argsK 0 args) ks=some τ:=by exact rfl):Ret P f args.toArray w R:=Jx hf hb hm τ (Jea hk) h
theorem CP{f:FuncId}{xs:List Operand}{vs:List Value}{ats:Array TypeId}(hC:Ret P f vs.toArray w fun u w'=>u=v∧G w w')(h:∀ w',G w w'→SR P Z ops cl lv W0 n K (k+1) rest ((d,True,v) :: σ) w')(hx:Qga n σ True xs vs:=by repeat first|exact aq0|refine aqc rfl ?_)
  (hb:(!Nat.beq (clOf cl k) 0 && !Nat.beq (clOf cl k) 3&&Nat.blt d n)=true:=by exact rfl) (hf:goFn P f=true:=by kernel_rfl):SR P Z ops cl lv W0 n K k (⟨some d,.call { callee:=.value (.func f),args:=xs.toArray,argTypes:=ats },ty,pos,after,none⟩::rest) σ w:=Vh hb (Yl hf Vi hx (by simp)) hC h
theorem CG{f:FuncId}{xs:List Operand}{vs:List Value}{ats:Array TypeId}{g t:Nat}{want b:Bool}{c0:Prop}(hC:c0∧b=want→Ret P f vs.toArray w fun u w'=>u=v∧G w w')(h:∀ w',G w w'→SR P Z ops cl lv W0 n K (k+1) rest ((d,c0∧b=want,v) :: σ) w')(hgd:((ops.toArray[g]?).bind (·.dst))=some t:=by exact rfl)(hlk:look σ t=some (c0,.bool b):=by exact rfl)
  (hx:Qga n σ (c0∧b=want) xs vs:=by repeat first|exact Xl|refine Yr EX ?_)
  (hb:(!Nat.beq (clOf cl k) 0 && !Nat.beq (clOf cl k) 3&&Nat.blt d n)=true:=by exact rfl) (hf:goFn P f=true:=by kernel_rfl):SR P Z ops cl lv W0 n K k (⟨some d,.call { callee:=.value (.func f),args:=xs.toArray,argTypes:=ats },ty,pos,after,some (g,want)⟩::rest) σ w:=Xy hb hgd hlk (fun _=>Yl hf Vi hx (by simp)) hC h
end
section
variable {P:Program} {Z:List PanicEntry→Act→World→Prop} {ops:List Oper} {cl:List Nat} {lv:List Bool} {W0:World} {n:Nat} {K:Act→World→Prop} {k:Nat} {rest:List Oper} {σ τ:List Ent} {w:World} {d:Nat} {op:Op} {ty:TypeId} {pos:String} {after:Array Edge} {v:Value} {N T:Act→World→Prop} {X:List (Nat×(Act→World→Prop))} {x y:Operand} {t u:TypeId}
theorem isC{c:Code}(h:SC P n c N X T σ w):SC P n c N X T σ w:=h
theorem isR{l:List Oper}(h:SR P Z ops cl lv W0 n K k l σ w):SR P Z ops cl lv W0 n K k l σ w:=h
theorem isL(h:SR P Z ops cl lv W0 n K k (⟨some d,.load t x,ty,pos,after,none⟩::rest) σ w):SR P Z ops cl lv W0 n K k (⟨some d,.load t x,ty,pos,after,none⟩::rest) σ w:=h
theorem isG{g:Nat×Bool}(h:SR P Z ops cl lv W0 n K k (⟨some d,op,ty,pos,after,some g⟩::rest) σ w):SR P Z ops cl lv W0 n K k (⟨some d,op,ty,pos,after,some g⟩::rest) σ w:=h
theorem isB{b:BinOp}(h:SR P Z ops cl lv W0 n K k (⟨some d,.binOp b t x y u,ty,pos,after,none⟩::rest) σ w):SR P Z ops cl lv W0 n K k (⟨some d,.binOp b t x y u,ty,pos,after,none⟩::rest) σ w:=h
theorem isN(hb:Nat.beq (clOf cl k) 3=true)(h:SR P Z ops cl lv W0 n K k (⟨some d,op,ty,pos,after,none⟩::rest) σ w):SR P Z ops cl lv W0 n K k (⟨some d,op,ty,pos,after,none⟩::rest) σ w:=h
end
structure Wr (q:Prop):Prop where h:q
theorem AU{p q:Prop}(h:q)(k:Wr q→p:=by
 intro h0
 repeat first
  | (refine isC ?_;first|(refine Zj ?_;try refine Zm ?_)|refine Zm ?_|refine Ya (kq ?_)|refine Yv ?_|refine Qs rfl (kq ?_))
  | (refine isR ?_;first|(refine Ze ?_;refine kq ?_)|(refine isL ?_;first|refine Vf TYA.h rfl rfl ROW ?_|refine Yq TY1.h rfl CE ?_)|(refine isG ?_;first|(refine' Zi rfl rfl rfl ?_ ?_;rotate_left;exact fun _=>PU)|(refine' Ye rfl rfl rfl ?_ ?_;rotate_left;exact LD))|(refine isB ?_;first|refine Qsd rfl rfl ?_|refine Zwa rfl rfl ?_|refine Qqa rfl rfl (by omega) ?_|refine Zud rfl rfl ?_|refine Xka rfl rfl ?_|refine Yse rfl rfl ?_|refine Yte rfl rfl ?_|(refine' Zo rfl ?_ ?_;rotate_left;exact fun _=>PU))|(refine isN rfl ?_;first|refine Zq rfl ?_|refine Yo rfl ?_|refine Yj FOF.h rfl ?_|refine Ql rfl ?_|refine Xtg rfl ?_|refine Xla TYE.h rfl ?_|refine Jm TYE.h rfl rfl (by omega) (by first|exact hpe|assumption) ?_|refine Vvc rfl rfl ?_|(refine' Zo rfl ?_ ?_;rotate_left;exact fun _=>PU)|refine Zba TZE.h TPL.h (by first|exact pq0|exact pqc rfl pq0|repeat first|exact pq0|refine pqc rfl ?_) rfl rfl ?_))
  | (refine Qk ?_;refine kq ?_)
 exact h0.h):p:=k ⟨h⟩
theorem IF{p A B C D:Prop}(hT:A→B)(hF:C→D)(k:(A→B)→(C→D)→p:=by intro hT hF;refine AU ?_;exact Wm rfl hT hF):p:=k hT hF
theorem RS1{p:Prop}(h:p:=by repeat first|exact Wz|(apply Qh;exact rfl)|(apply Jd;exact rfl;exact TYA.h;rotate_left;exact ROW;rotate_right;exact rfl)|(apply Jfg;exact rfl;exact TY1.h;exact CE)):p:=h
theorem RTN{p q:Prop}(h:q)(k:Wr q→p:=by intro h;refine AU ?_;refine Xd ?_;first|exact Vy rfl rfl h.h|exact Qrd rfl RS1 h.h|exact Uq rfl rfl RS1 rfl h.h|exact Uje rfl h.h):p:=k ⟨h⟩
theorem AN{p:Prop}{R A L q:Nat→World→Prop}{B:Nat→Prop}(h:∀ b w,R b w→B b→A b w→L b w→q b w)(k:(∀ b w,R b w→B b→A b w→L b w→q b w)→p:=by
 intro h;refine AU ?_
 first
  | refine Jg rfl TZE.h rfl (fun b w N=>h b w N (Zza N g.size) (gtg g N.g) (E.new N))
  | refine Jg rfl TZE.h rfl (fun b w N=>h b w N (N.ge g) (g.trans N.g) (E.new N))):p:=k h
theorem AM{p:Prop}{R A L q:Nat→World→Prop}{B:Nat→Prop}(h:∀ b w,R b w→B b→A b w→L b w→q b w)(k:(∀ b w,R b w→B b→A b w→L b w→q b w)→p:=by
 intro h;refine AU ?_
 first
  | refine Jg rfl TZE.h rfl (fun b w N=>h b w N (Zza N g.size) (gtg g N.g) ((Xna _).new N))
  | refine Jg rfl TZE.h rfl (fun b w N=>h b w N (N.ge g) (g.trans N.g) ((Xna _).new N))):p:=k h
theorem BN{p:Prop}{R A L q:Nat→World→Prop}{B:Nat→Prop}(h:∀ b w,R b w→B b→A b w→L b w→q b w)(k:(∀ b w,R b w→B b→A b w→L b w→q b w)→p:=by
 intro h;refine AU ?_
 first
  | refine Via rfl (Ywa rfl) rfl (fun b w N=>h b w N (Zza N g.size) (gtg g N.g) (E.new N))
  | refine Via rfl (Ywa rfl) rfl (fun b w N=>h b w N (N.ge g) (g.trans N.g) (E.new N))):p:=k h
theorem BM{p:Prop}{R A L q:Nat→World→Prop}{B:Nat→Prop}(h:∀ b w,R b w→B b→A b w→L b w→q b w)(k:(∀ b w,R b w→B b→A b w→L b w→q b w)→p:=by
 intro h;refine AU ?_
 first
  | refine Via rfl (Ywa rfl) rfl (fun b w N=>h b w N (Zza N g.size) (gtg g N.g) ((Xna _).new N))
  | refine Via rfl (Ywa rfl) rfl (fun b w N=>h b w N (N.ge g) (g.trans N.g) ((Xna _).new N))):p:=k h
theorem CN{p:Prop}{R A L q:Nat→World→Prop}{B:Nat→Prop}(h:∀ b w,R b w→B b→A b w→L b w→q b w)(k:(∀ b w,R b w→B b→A b w→L b w→q b w)→p:=by
 intro h;refine AU ?_
 first
  | refine Wy _ rfl TYE.h TZE.h (by first|exact pqc rfl pq0|exact pqc rfl (pqc rfl pq0)|exact pqc rfl (pqc rfl (pqc rfl pq0))|exact pqc rfl (pqc rfl (pqc rfl (pqc rfl pq0)))|exact pqc rfl (pqc rfl (pqc rfl (pqc rfl (pqc rfl pq0))))|exact pqc rfl (pqc rfl (pqc rfl (pqc rfl (pqc rfl (pqc rfl pq0)))))) rfl rfl (fun b w N=>h b w N (Zza N g.size) (gtg g N.g) (E.new N))
  | refine Wy _ rfl TYE.h TZE.h (by first|exact pqc rfl pq0|exact pqc rfl (pqc rfl pq0)|exact pqc rfl (pqc rfl (pqc rfl pq0))|exact pqc rfl (pqc rfl (pqc rfl (pqc rfl pq0)))|exact pqc rfl (pqc rfl (pqc rfl (pqc rfl (pqc rfl pq0))))|exact pqc rfl (pqc rfl (pqc rfl (pqc rfl (pqc rfl (pqc rfl pq0)))))) rfl rfl (fun b w N=>h b w N (N.ge g) (g.trans N.g) (E.new N))):p:=k h
theorem CM{p:Prop}{R A L q:Nat→World→Prop}{B:Nat→Prop}(h:∀ b w,R b w→B b→A b w→L b w→q b w)(k:(∀ b w,R b w→B b→A b w→L b w→q b w)→p:=by
 intro h;refine AU ?_
 first
  | refine Wy _ rfl TYE.h TZE.h (by first|exact pqc rfl pq0|exact pqc rfl (pqc rfl pq0)|exact pqc rfl (pqc rfl (pqc rfl pq0))|exact pqc rfl (pqc rfl (pqc rfl (pqc rfl pq0)))|exact pqc rfl (pqc rfl (pqc rfl (pqc rfl (pqc rfl pq0))))|exact pqc rfl (pqc rfl (pqc rfl (pqc rfl (pqc rfl (pqc rfl pq0)))))) rfl rfl (fun b w N=>h b w N (Zza N g.size) (gtg g N.g) ((Xna _).new N))
  | refine Wy _ rfl TYE.h TZE.h (by first|exact pqc rfl pq0|exact pqc rfl (pqc rfl pq0)|exact pqc rfl (pqc rfl (pqc rfl pq0))|exact pqc rfl (pqc rfl (pqc rfl (pqc rfl pq0)))|exact pqc rfl (pqc rfl (pqc rfl (pqc rfl (pqc rfl pq0))))|exact pqc rfl (pqc rfl (pqc rfl (pqc rfl (pqc rfl (pqc rfl pq0)))))) rfl rfl (fun b w N=>h b w N (N.ge g) (g.trans N.g) ((Xna _).new N))):p:=k h
theorem AS{p B:Prop}{R A L q:World→Prop}(h:∀ w,R w→B→A w→L w→q w)(k:(∀ w,R w→B→A w→L w→q w)→p:=by
 intro h;refine AU ?_
 first
  | refine Ymb TSZ.h rfl rfl rfl E.g0 (fun w r _ B=>h w r E.g0 (by first|exact Wo g r (by first|assumption|omega)|exact Yb g r (by first|assumption|omega)) (E.s0 r B))
  | refine Vwc TSZ.h rfl rfl rfl E.g0 (fun w r _ B=>h w r E.g0 (by first|exact Wo g r (by first|assumption|omega)|exact Yb g r (by first|assumption|omega)) (E.s0 r B))
  | refine Ymb TSZ.h rfl rfl rfl E.g1 (fun w r _ B=>h w r E.g1 (by first|exact Wo g r (by first|assumption|omega)|exact Yb g r (by first|assumption|omega)) (E.s1 r B))
  | refine Vwc TSZ.h rfl rfl rfl E.g1 (fun w r _ B=>h w r E.g1 (by first|exact Wo g r (by first|assumption|omega)|exact Yb g r (by first|assumption|omega)) (E.s1 r B))
  | refine Ymb TSZ.h rfl rfl rfl E.g2 (fun w r _ B=>h w r E.g2 (by first|exact Wo g r (by first|assumption|omega)|exact Yb g r (by first|assumption|omega)) (E.s2 r B))
  | refine Vwc TSZ.h rfl rfl rfl E.g2 (fun w r _ B=>h w r E.g2 (by first|exact Wo g r (by first|assumption|omega)|exact Yb g r (by first|assumption|omega)) (E.s2 r B))
  | refine Ymb TSZ.h rfl rfl rfl E.g3 (fun w r _ B=>h w r E.g3 (by first|exact Wo g r (by first|assumption|omega)|exact Yb g r (by first|assumption|omega)) (E.s3 r B))
  | refine Vwc TSZ.h rfl rfl rfl E.g3 (fun w r _ B=>h w r E.g3 (by first|exact Wo g r (by first|assumption|omega)|exact Yb g r (by first|assumption|omega)) (E.s3 r B))
  | refine Ymb TSZ.h rfl rfl rfl E.g4 (fun w r _ B=>h w r E.g4 (by first|exact Wo g r (by first|assumption|omega)|exact Yb g r (by first|assumption|omega)) (E.s4 r B))
  | refine Vwc TSZ.h rfl rfl rfl E.g4 (fun w r _ B=>h w r E.g4 (by first|exact Wo g r (by first|assumption|omega)|exact Yb g r (by first|assumption|omega)) (E.s4 r B))
  | refine Ymb TSZ.h rfl rfl rfl E.g5 (fun w r _ B=>h w r E.g5 (by first|exact Wo g r (by first|assumption|omega)|exact Yb g r (by first|assumption|omega)) (E.s5 r B))
  | refine Vwc TSZ.h rfl rfl rfl E.g5 (fun w r _ B=>h w r E.g5 (by first|exact Wo g r (by first|assumption|omega)|exact Yb g r (by first|assumption|omega)) (E.s5 r B))
  | refine Ymb TSZ.h rfl rfl rfl E.g6 (fun w r _ B=>h w r E.g6 (by first|exact Wo g r (by first|assumption|omega)|exact Yb g r (by first|assumption|omega)) (E.s6 r B))
  | refine Vwc TSZ.h rfl rfl rfl E.g6 (fun w r _ B=>h w r E.g6 (by first|exact Wo g r (by first|assumption|omega)|exact Yb g r (by first|assumption|omega)) (E.s6 r B))
  | refine Ymb TSZ.h rfl rfl rfl E.g7 (fun w r _ B=>h w r E.g7 (by first|exact Wo g r (by first|assumption|omega)|exact Yb g r (by first|assumption|omega)) (E.s7 r B))
  | refine Vwc TSZ.h rfl rfl rfl E.g7 (fun w r _ B=>h w r E.g7 (by first|exact Wo g r (by first|assumption|omega)|exact Yb g r (by first|assumption|omega)) (E.s7 r B))
  | refine Ymb TSZ.h rfl rfl rfl E.g8 (fun w r _ B=>h w r E.g8 (by first|exact Wo g r (by first|assumption|omega)|exact Yb g r (by first|assumption|omega)) (E.s8 r B))
  | refine Vwc TSZ.h rfl rfl rfl E.g8 (fun w r _ B=>h w r E.g8 (by first|exact Wo g r (by first|assumption|omega)|exact Yb g r (by first|assumption|omega)) (E.s8 r B))
  | refine Ymb TSZ.h rfl rfl rfl E.g9 (fun w r _ B=>h w r E.g9 (by first|exact Wo g r (by first|assumption|omega)|exact Yb g r (by first|assumption|omega)) (E.s9 r B))
  | refine Vwc TSZ.h rfl rfl rfl E.g9 (fun w r _ B=>h w r E.g9 (by first|exact Wo g r (by first|assumption|omega)|exact Yb g r (by first|assumption|omega)) (E.s9 r B))
  | refine Ymb TSZ.h rfl rfl rfl E.g10 (fun w r _ B=>h w r E.g10 (by first|exact Wo g r (by first|assumption|omega)|exact Yb g r (by first|assumption|omega)) (E.s10 r B))
  | refine Vwc TSZ.h rfl rfl rfl E.g10 (fun w r _ B=>h w r E.g10 (by first|exact Wo g r (by first|assumption|omega)|exact Yb g r (by first|assumption|omega)) (E.s10 r B))
  | refine Ymb TSZ.h rfl rfl rfl E.g11 (fun w r _ B=>h w r E.g11 (by first|exact Wo g r (by first|assumption|omega)|exact Yb g r (by first|assumption|omega)) (E.s11 r B))
  | refine Vwc TSZ.h rfl rfl rfl E.g11 (fun w r _ B=>h w r E.g11 (by first|exact Wo g r (by first|assumption|omega)|exact Yb g r (by first|assumption|omega)) (E.s11 r B))
  | refine Ymb TSZ.h rfl rfl rfl E.g12 (fun w r _ B=>h w r E.g12 (by first|exact Wo g r (by first|assumption|omega)|exact Yb g r (by first|assumption|omega)) (E.s12 r B))
  | refine Vwc TSZ.h rfl rfl rfl E.g12 (fun w r _ B=>h w r E.g12 (by first|exact Wo g r (by first|assumption|omega)|exact Yb g r (by first|assumption|omega)) (E.s12 r B))):p:=k h
theorem Ua{p q:Prop}(h:p)(k:p→q:=by exact fun h=>h.keep ga (by simp)):q:=k h
theorem Ub{p q:Prop}(h:p)(k:p→q:=by exact fun h=>h.keep ga Ca rfl (by omega)):q:=k h
theorem Uc{p q:Prop}(h:p)(k:p→q:=by exact fun h=>h.keep ga Ca rfl rfl):q:=k h
theorem Ud{p q:Prop}(h:p)(k:p→q:=by exact fun h=>h.keep ga (fun k hk _ e=>by injection e with e;omega)):q:=k h
theorem Ue{p q:Prop}(h:p)(k:p→q:=by exact fun h=>by first|exact h.keept ga Ca rfl|exact h.keep ga (by simp)):q:=k h
theorem Uf{p q:Prop}(h:p)(k:p→q:=by exact fun h=>by first|exact h.keept ga Ca rfl|exact h.keep ga (by first|exact .inl (by omega)|simp)):q:=k h
theorem Uh{p q:Prop}(h:p)(k:p→q:=by exact fun h=>Jb h ga (by omega)):q:=k h
theorem Ui{p q:Prop}(h:p)(k:p→q:=by exact fun h=>h.grow ga.g):q:=k h
theorem Uj{p q:Prop}(h:p)(k:p→q:=by exact fun h=>h.new ga):q:=k h
theorem Uk{p q:Prop}(h:p)(k:p→q:=by exact fun h=>h.grow ga):q:=k h
theorem Ul{p q:Prop}(h:p)(k:p→q:=by exact fun h=>h.gt ga):q:=k h
theorem Um{p q:Prop}(h:p)(k:p→q:=by exact fun h=>h.gt ga (fun k h=>h)):q:=k h
end Go.Rk
namespace Go.Rk
open Go.Proofs
open Go
theorem bsimp:True:=trivial
def letterB(c:Int):Bool:=(decide (97≤c)&&decide (c≤122) || decide (65≤c)&&decide (c≤90)) || decide (c=95)
def digitB(c:Int):Bool:=decide (48≤c)&&decide (c≤57)
theorem Ujc(c:Int)(w:World):Ret PP Ynd #[.int .u8 c] w fun v w'=>v = .bool (letterB c)∧G w w':=by
 have g:=G.refl w;refine WK 21 [0] Ucc ?_;refine RTN ?_;exact ⟨rfl,g⟩
theorem Yud(c:Int)(w:World):Ret PP Vnd #[.int .u8 c] w fun v w'=>v = .bool (digitB c)∧G w w':=by
 have g:=G.refl w;refine WK 9 [0] Jac ?_;refine RTN ?_;exact ⟨rfl,g⟩
theorem Uif(c:Int)(w:World):Ret PP Wpb #[.int .u8 c] w fun v w'=>v = .bool (!decide (c=10))∧G w w':=by
 have g:=G.refl w;refine WK 5 [0] Ygb ?_;refine RTN ?_;exact ⟨rfl,g⟩
theorem Ujf(c:Int)(w:World):Ret PP Wrb #[.int .u8 c] w fun v w'=>v = .bool (letterB c || digitB c)∧G w w':=by
 have g:=G.refl w;refine WK 9 [0] Yhb ?_;refine AU ?_;refine CP (Ujc _ _) (fun w4 g4=>?_);have g:=g.trans g4;refine AU ?_;refine CG (fun hc=>Yud _ _) (fun w7 g7=>?_);have g:=g.trans g7;refine RTN ?_;exact ⟨rfl,g⟩
def kws:List (List UInt8):=[[116,121,112,101],[115,116,114,117,99,116],[118,97,114],[102,117,110,99],[105,102],[101,108,115,101],[102,111,114],[114,101,116,117,114,110],[103,111],[100,101,102,101,114],[115,101,108,101,99,116],[99,97,115,101],[100,101,102,97,117,108,116],[99,104,97,110],[110,101,119],[109,97,107,101],[108,101,110],[116,114,117,101],[102,97,108,115,101],[110,105,108],[112,114,105,110,116],[99,108,111,115,101],[105,110,116],[98,111,111,108],[109,117,116,101,120],[114,119,109,117,116,101,120],[103,114,111,117,112],[111,110,99,101],[97,116,111,109,105,99]]
def endw:List (List UInt8):=[[116,114,117,101],[102,97,108,115,101],[110,105,108],[114,101,116,117,114,110],[105,110,116],[98,111,111,108],[109,117,116,101,120],[114,119,109,117,116,101,120],[103,114,111,117,112],[111,110,99,101],[97,116,111,109,105,99],[41],[93],[125]]
def inB(l:List (List UInt8))(s:List UInt8):Bool:=l.any fun k=>decide (s=k)
theorem Qae(s:List UInt8)(w:World):Ret PP Jbc #[Str s] w fun v w'=>v = .bool (inB kws s)∧G w w':=by
 have g:=G.refl w;refine WK 34 [0] Wnc ?_;refine AU ?_;refine' OR [2] (fun hb1=>?y1) (kq ?n1)
 case y1 =>
  refine AU ?_;refine' OR [2] (fun hb2=>?y2) knr
  case y2 =>
   refine AU ?_;refine' OR [2] (fun hb3=>?y3) knr
   case y3 =>
    refine AU ?_;refine' OR [2] (fun hb4=>?y4) knr
    case y4 =>
     refine AU ?_;refine' OR [2] (fun hb5=>?y5) knr
     case y5 =>
      refine AU ?_;refine' OR [2] (fun hb6=>?y6) knr
      case y6 =>
       refine AU ?_;refine' OR [2] (fun hb7=>?y7) knr
       case y7 =>
        refine AU ?_;refine' OR [2] (fun hb8=>?y8) knr
        case y8 =>
         refine AU ?_;refine' OR [2] (fun hb9=>?y9) knr
         case y9 =>
          refine AU ?_;refine' OR [2] (fun hb10=>?y10) knr
          case y10 =>
           refine AU ?_;refine' OR [2] (fun hb11=>?y11) knr
           case y11 =>
            refine AU ?_;refine' OR [2] (fun hb12=>?y12) knr
            case y12 =>
             refine AU ?_;refine' OR [2] (fun hb13=>?y13) knr
             case y13 =>
              refine AU ?_;refine' OR [2] (fun hb14=>?y14) knr
              case y14 =>
               refine AU ?_;refine' OR [2] (fun hb15=>?y15) knr
               case y15 =>
                refine AU ?_;refine' OR [2] (fun hb16=>?y16) knr
                case y16 =>
                 refine AU ?_;refine' OR [2] (fun hb17=>?y17) knr
                 case y17 =>
                  refine AU ?_;refine' OR [2] (fun hb18=>?y18) knr
                  case y18 =>
                   refine AU ?_;refine' OR [2] (fun hb19=>?y19) knr
                   case y19 =>
                    refine AU ?_;refine' OR [2] (fun hb20=>?y20) knr
                    case y20 =>
                     refine AU ?_;refine' OR [2] (fun hb21=>?y21) knr
                     case y21 =>
                      refine AU ?_;refine' OR [2] (fun hb22=>?y22) knr
                      case y22 =>
                       refine AU ?_;refine' OR [2] (fun hb23=>?y23) knr
                       case y23 =>
                        refine AU ?_;refine' OR [2] (fun hb24=>?y24) knr
                        case y24 =>
                         refine AU ?_;refine' OR [2] (fun hb25=>?y25) knr
                         case y25 =>
                          refine AU ?_;refine' OR [2] (fun hb26=>?y26) knr
                          case y26 =>
                           refine AU ?_;refine' OR [2] (fun hb27=>?y27) knr
                           case y27 =>
                            refine AU ?_;refine' OR [2] (fun hb28=>?y28) knr
                            case y28 =>
                             refine AU ?_;refine SK [4,2] ?_;exact Ze knr
 case n1 =>
  refine IF (fun h29=>?_) fun h29=>?_;(try simp only [bsimp] at h29);refine RTN ?_;refine ⟨?_,g⟩;simp only [inB,kws,List.any_cons,List.any_nil,Bool.or_false];rw [h29];refine RTN ?_;refine ⟨?_,g⟩;simp only [inB,kws,List.any_cons,List.any_nil,Bool.or_false];rw [h29]
theorem Xpf(s:List UInt8)(w:World):Ret PP Ypd #[Str s] w fun v w'=>v = .bool (inB endw s)∧G w w':=by
 have g:=G.refl w;refine WK 19 [0] Udc ?_;refine AU ?_;refine' OR [2] (fun hb1=>?y1) (kq ?n1)
 case y1 =>
  refine AU ?_;refine' OR [2] (fun hb2=>?y2) knr
  case y2 =>
   refine AU ?_;refine' OR [2] (fun hb3=>?y3) knr
   case y3 =>
    refine AU ?_;refine' OR [2] (fun hb4=>?y4) knr
    case y4 =>
     refine AU ?_;refine' OR [2] (fun hb5=>?y5) knr
     case y5 =>
      refine AU ?_;refine' OR [2] (fun hb6=>?y6) knr
      case y6 =>
       refine AU ?_;refine' OR [2] (fun hb7=>?y7) knr
       case y7 =>
        refine AU ?_;refine' OR [2] (fun hb8=>?y8) knr
        case y8 =>
         refine AU ?_;refine' OR [2] (fun hb9=>?y9) knr
         case y9 =>
          refine AU ?_;refine' OR [2] (fun hb10=>?y10) knr
          case y10 =>
           refine AU ?_;refine' OR [2] (fun hb11=>?y11) knr
           case y11 =>
            refine AU ?_;refine' OR [2] (fun hb12=>?y12) knr
            case y12 =>
             refine AU ?_;refine' OR [2] (fun hb13=>?y13) knr
             case y13 =>
              refine AU ?_;refine SK [4,2] ?_;exact Ze knr
 case n1 =>
  refine IF (fun h14=>?_) fun h14=>?_;(try simp only [bsimp] at h14);refine RTN ?_;refine ⟨?_,g⟩;simp only [inB,endw,List.any_cons,List.any_nil,Bool.or_false];rw [h14];refine RTN ?_;refine ⟨?_,g⟩;simp only [inB,endw,List.any_cons,List.any_nil,Bool.or_false];rw [h14]
theorem Qcc(s:List UInt8)(w:World):Ret PP Yjd #[Str s] w fun v w'=>v = .bool (inB kws s)∧G w w':=by
 have g:=G.refl w;refine WK 34 [0] Uac ?_;refine AU ?_;refine' OR [2] (fun hb1=>?y1) (kq ?n1)
 case y1 =>
  refine AU ?_;refine' OR [2] (fun hb2=>?y2) knr
  case y2 =>
   refine AU ?_;refine' OR [2] (fun hb3=>?y3) knr
   case y3 =>
    refine AU ?_;refine' OR [2] (fun hb4=>?y4) knr
    case y4 =>
     refine AU ?_;refine' OR [2] (fun hb5=>?y5) knr
     case y5 =>
      refine AU ?_;refine' OR [2] (fun hb6=>?y6) knr
      case y6 =>
       refine AU ?_;refine' OR [2] (fun hb7=>?y7) knr
       case y7 =>
        refine AU ?_;refine' OR [2] (fun hb8=>?y8) knr
        case y8 =>
         refine AU ?_;refine' OR [2] (fun hb9=>?y9) knr
         case y9 =>
          refine AU ?_;refine' OR [2] (fun hb10=>?y10) knr
          case y10 =>
           refine AU ?_;refine' OR [2] (fun hb11=>?y11) knr
           case y11 =>
            refine AU ?_;refine' OR [2] (fun hb12=>?y12) knr
            case y12 =>
             refine AU ?_;refine' OR [2] (fun hb13=>?y13) knr
             case y13 =>
              refine AU ?_;refine' OR [2] (fun hb14=>?y14) knr
              case y14 =>
               refine AU ?_;refine' OR [2] (fun hb15=>?y15) knr
               case y15 =>
                refine AU ?_;refine' OR [2] (fun hb16=>?y16) knr
                case y16 =>
                 refine AU ?_;refine' OR [2] (fun hb17=>?y17) knr
                 case y17 =>
                  refine AU ?_;refine' OR [2] (fun hb18=>?y18) knr
                  case y18 =>
                   refine AU ?_;refine' OR [2] (fun hb19=>?y19) knr
                   case y19 =>
                    refine AU ?_;refine' OR [2] (fun hb20=>?y20) knr
                    case y20 =>
                     refine AU ?_;refine' OR [2] (fun hb21=>?y21) knr
                     case y21 =>
                      refine AU ?_;refine' OR [2] (fun hb22=>?y22) knr
                      case y22 =>
                       refine AU ?_;refine' OR [2] (fun hb23=>?y23) knr
                       case y23 =>
                        refine AU ?_;refine' OR [2] (fun hb24=>?y24) knr
                        case y24 =>
                         refine AU ?_;refine' OR [2] (fun hb25=>?y25) knr
                         case y25 =>
                          refine AU ?_;refine' OR [2] (fun hb26=>?y26) knr
                          case y26 =>
                           refine AU ?_;refine' OR [2] (fun hb27=>?y27) knr
                           case y27 =>
                            refine AU ?_;refine' OR [2] (fun hb28=>?y28) knr
                            case y28 =>
                             refine AU ?_;refine SK [4,2] ?_;exact Ze knr
 case n1 =>
  refine IF (fun h29=>?_) fun h29=>?_;(try simp only [bsimp] at h29);refine RTN ?_;refine ⟨?_,g⟩;simp only [inB,kws,List.any_cons,List.any_nil,Bool.or_false];rw [h29];refine RTN ?_;refine ⟨?_,g⟩;simp only [inB,kws,List.any_cons,List.any_nil,Bool.or_false];rw [h29]
end Go.Rk
namespace Go.Rk
open Go.Proofs
open Go Go.RowKit
def preB(p s:List UInt8):Bool:=decide (p.length≤s.length)&&decide (s.take p.length=p)
theorem Zbe(s p:List UInt8)(w:World):Ret PP Vga #[Str s,Str p] w fun v w'=>v = .bool (preB p s)∧G w w':=by
 have g:=G.refl w;refine WK 18 [0,1] Wha ?_;refine AU ?_;refine Zi O O O (fun _=>Vvd Yu (Zk O id) (Zk O id) (fun hc=>⟨by omega,by have:=of_decide_eq_true hc.2;omega⟩)) ?_;refine RTN ?_;refine ⟨?_,g⟩;unfold preB;simp
theorem Yqc(s p:List UInt8)(w:World):Ret PP Qlb #[Str s,Str p] w fun v w'=>v = .bool (preB p s)∧G w w':=by
 have g:=G.refl w;refine WK 8 [0,1] Wob ?_;refine AU ?_;refine CP (Zbe _ _ _) (fun w7 g7=>?_);have g:=g.trans g7;refine RTN ?_;exact ⟨rfl,g⟩
structure Tok where
  kind:Int
  text:List UInt8
  pos:Int
def tokCells(t:Tok):List Value:=[.int .i64 t.kind,Str t.text,.int .i64 t.pos]
def toksCells(l:List Tok):List Value:=l.flatMap tokCells
theorem Xfb(l:List Tok):(toksCells l).length=l.length*3:=by
 unfold toksCells
 induction l with
 | nil=>rfl
 | cons t l ih=>rw [List.flatMap_cons,List.length_append,ih];simp [tokCells];omega
theorem Yla(l:List Tok)(t:Tok):toksCells (l++[t])=toksCells l++tokCells t:=by simp [toksCells]
def Scn(base b:Nat)(s:List UInt8)(p:Nat)(ts cs:List Tok)(w:World):Prop :=
 ∃ ta tc ca cc,Blk w b Yza [Str s,.int .i64 p,.slice ta ts.length tc,.slice ca cs.length cc]∧base≤b∧w.ownsRow base Vx 3 (.slice ta ts.length tc) ts.length (toksCells ts)∧
  w.ownsRow base Vx 3 (.slice ca cs.length cc) cs.length (toksCells cs)∧(Value.slice ta ts.length tc).ownBlock≠some b∧(Value.slice ca cs.length cc).ownBlock≠some b∧
  (∀ k,(Value.slice ta ts.length tc).ownBlock=some k→(Value.slice ca cs.length cc).ownBlock≠some k)∧ts.length≤p∧cs.length≤p∧p≤s.length∧s.length≤20000
theorem Vua{w:World}{base:Nat}{e:TypeId}{z:Nat}{tv tv' cv:Value}{m:Nat}{xs:List Value}(hc:w.ownsRow base e z cv m xs)(n3:∀ k,tv.ownBlock=some k→cv.ownBlock≠some k)
 (hat:tv'.ownBlock=tv.ownBlock∨tv'.ownBlock=some w.heap.size):∀ k,tv'.ownBlock=some k→cv.ownBlock≠some k:=by
 intro k hk;rcases hat with e|e;exact n3 k (e▸hk);rw [e] at hk;injection hk with hk;subst hk;exact Uke hc (Nat.le_refl _)
theorem Ukc{w:World}{b:Nat}{tv tv':Value}(hb:b<w.heap.size)(n1:tv.ownBlock≠some b)(hat:tv'.ownBlock=tv.ownBlock∨tv'.ownBlock=some w.heap.size):tv'.ownBlock≠some b:=by
 rcases hat with e|e <;> rw [e]
 exact n1;intro h;injection h with h;omega
theorem Xgb{w w':World}{base:Nat}{e:TypeId}{z:Nat}{tv cv:Value}{m:Nat}{xs:List Value}(hc:w.ownsRow base e z cv m xs)(n3:∀ k,tv.ownBlock=some k→cv.ownBlock≠some k)(hg:w.grownBy w' tv.ownBlock):w'.ownsRow base e z cv m xs :=
 Xw hc hg (by rcases hq:cv.ownBlock with _|k;exact .inl rfl;exact .inr (fun he=>n3 k he.symm hq))
theorem Zce(base b:Nat)(s:List UInt8)(p:Nat)(ts cs:List Tok)(kind:Int)(size:Nat)(w:World)(hs:Scn base b s p ts cs w)(h1:1≤size)(h2:p+size≤s.length) :
 Ret PP Zvc #[.pointer (some ⟨b,0,none⟩),.int .i64 kind,.int .i64 size] w fun v w'=>v = .tuple #[]∧Scn base b s (p+size) (ts++[⟨kind,(s.drop p).take size,p⟩]) cs w'∧Below base w w':=by
 obtain ⟨ta,tc,ca,cc,hB,hb0,ht,hc,n1,n2,n3,k1,k2,k3,k4⟩:=hs;have hb:Below base w w:=Below.refl _ _;have hlt:=hB.lt;refine Jx (m:=44) Udb O O [(0,True,_),(1,True,_),(2,True,_)] (Za O (Za O (Za O (Zp _)))) ?_;refine Zj (Xe [3,3,3,3,0,3,3,3,3,0,3,3,3,0,3,3,3,0,3,3,3,3,3,3,0,3,1,2,3,3,2] [true,true,true,true,true,true,true,true,true,true,true,true,true,true,true,true,true,true,true,true,true,true,true,true,true,true,true,true,true,true,true] [0,0,2,6,14,0,0,64,192,448,0,1024,3072,7168,0,16384,49152,114688,0,507904,1048512,0,2097152,6291456,14680064,33554400,67108832,134217726,268435455,536870911,1073741823] mix (by kernel_rfl) ?_);have hb:=hb.drew;have hB:Blk w.drew _ _ _:=hB;have ht:=Yoe ht;have hc:=Yoe hc;refine Zq O (Zq O (Ql O (Yj Jz O (Yq Vl O (hB.at_ O) (Zq O (Zq O (Ql O (Yj Vq O (Yq Yg O (hB.at_ O) (Zq O (Ql O (Yj Xc O (Yq Yd O (hB.at_ O) (Zq O (Ql O (?_))))))))))))))));refine Yj Xc O (Yq Yd O (hB.at_ O) (Zq O (Qqa O O (by omega) (Zo O (fun _=>Xxb Yu (Zc O) (Zc O) (Zc O) (fun _=>by omega)) (Zq O (Ql O (Yj Xc O (Yq Yd O (hB.at_ O) (Zba Wa Qv (pqc O (pqc O (pqc O pq0))) O O (Wy _ O Xf Wa (pqc O pq0) O O ?_))))))))));intro b32 w32 N32;have hb:=hb.trans (Xwa N32.g (by show base≤w.heap.size;omega));have hB:=hB.grow N32.g;have ht:=Xz ht N32.g;have hc:=Xz hc N32.g;have hlt:=hB.lt;have E:=(Xna _).new N32;refine Jc O Xf Wa O (by decide) (Zc O) ht (Zc O) O N32.blk.row O (by simp only [maxLen];omega) (by omega) (by omega) ?_;intro ta' tc' w33 ht' hg hat;have hb:=Zaa hb hg (by omega) (fun k hk=>(ht.lt k hk).1);have hB:=hB.keep hg (Ne.symm n1);have n3':=Vua hc n3 hat;have hc:=Xgb hc n3 hg;have n3:=n3'
 have n1:=Ukc hlt n1 hat;refine AU ?_;refine Xi O Wsa (Zc O) (Zc O) O O hB O O ?_;intro w34 hg2 hz2 hB;have hb:=Zaa hb hg2 (by have:=hb.size;omega) (fun k hk=>by injection hk with hk;omega);have ht':=Xw ht' hg2 (.inr n1);have hc:=Xw hc hg2 (.inr n2);refine AU ?_;refine Xi O Va (Zc O) (Zc O) O O hB O O ?_;intro w44 hg3 hz3 hB;have hb:=Zaa hb hg3 (by have:=hb.size;omega) (fun k hk=>by injection hk with hk;omega);have ht':=Xw ht' hg3 (.inr n1);have hc:=Xw hc hg3 (.inr n2);refine Ze (Qj O ?_);have e:((p:Int)+size).toNat-(p:Int).toNat=size:=by omega
 rw [e] at ht';have hl:(ts++[(⟨kind,(s.drop p).take size,p⟩:Tok)]).length=ts.length+1:=by simp
 refine ⟨rfl,⟨ta',tc',ca,cc,?_,hb0,?_,hc,?_,n2,?_,?_,by omega,h2,k4⟩,hb⟩ <;> rw [hl]
 exact hB;rw [Yla];exact ht';exact n1;exact n3;omega
structure SA (base b:Nat) (s:List UInt8) (p:Nat) (ts cs:List Tok) (ta:Option Addr) (tc:Nat) (ca:Option Addr) (cc:Nat) (w:World):Prop where
  B:Blk w b Yza [Str s,.int .i64 p,.slice ta ts.length tc,.slice ca cs.length cc]
  hb:base≤b
  ht:w.ownsRow base Vx 3 (.slice ta ts.length tc) ts.length (toksCells ts)
  hc:w.ownsRow base Vx 3 (.slice ca cs.length cc) cs.length (toksCells cs)
  n1:(Value.slice ta ts.length tc).ownBlock≠some b
  n2:(Value.slice ca cs.length cc).ownBlock≠some b
  n3:∀ k,(Value.slice ta ts.length tc).ownBlock=some k→(Value.slice ca cs.length cc).ownBlock≠some k
theorem SA.grow{base b:Nat}{s:List UInt8}{p:Nat}{ts cs:List Tok}{ta:Option Addr}{tc:Nat}{ca:Option Addr}{cc:Nat}{w w1:World}(h:SA base b s p ts cs ta tc ca cc w)(g:G w w1):SA base b s p ts cs ta tc ca cc w1 :=
 { h with B:=h.B.grow g,ht:=Xz h.ht g,hc:=Xz h.hc g }
theorem SA.scn{base b:Nat}{s:List UInt8}{p:Nat}{ts cs:List Tok}{ta:Option Addr}{tc:Nat}{ca:Option Addr}{cc:Nat}{w:World}(h:SA base b s p ts cs ta tc ca cc w)(k1:ts.length≤p)(k2:cs.length≤p)(k3:p≤s.length)(k4:s.length≤20000):Scn base b s p ts cs w :=
 ⟨ta,tc,ca,cc,h.B,h.hb,h.ht,h.hc,h.n1,h.n2,h.n3,k1,k2,k3,k4⟩
theorem Scn.sa{base b:Nat}{s:List UInt8}{p:Nat}{ts cs:List Tok}{w:World}(h:Scn base b s p ts cs w):∃ ta tc ca cc,SA base b s p ts cs ta tc ca cc w∧ts.length≤p∧cs.length≤p∧p≤s.length∧s.length≤20000:=by
 obtain ⟨ta,tc,ca,cc,hB,hb0,ht,hc,n1,n2,n3,k1,k2,k3,k4⟩:=h;exact ⟨ta,tc,ca,cc,⟨hB,hb0,ht,hc,n1,n2,n3⟩,k1,k2,k3,k4⟩
theorem SA.base_le{base b:Nat}{s:List UInt8}{p:Nat}{ts cs:List Tok}{ta:Option Addr}{tc:Nat}{ca:Option Addr}{cc:Nat}{w:World}(h:SA base b s p ts cs ta tc ca cc w):base≤w.heap.size:=by have:=h.hb;have:=h.B.lt;omega
theorem SA.setp{base b:Nat}{s:List UInt8}{p q:Nat}{ts cs:List Tok}{ta:Option Addr}{tc:Nat}{ca:Option Addr}{cc:Nat}{w w1:World}(h:SA base b s p ts cs ta tc ca cc w)(hg:w.grownBy w1 (some b))
  (hB:Blk w1 b Yza [Str s,.int .i64 q,.slice ta ts.length tc,.slice ca cs.length cc]):SA base b s q ts cs ta tc ca cc w1 :=
 { h with B:=hB,ht:=Xw h.ht hg (.inr h.n1),hc:=Xw h.hc hg (.inr h.n2) }
theorem Qvb{base b:Nat}{a wk w1 w2:World}(hb:Below base a wk)(g:G wk w1)(hg:w1.grownBy w2 (some b))(hz:base≤wk.heap.size)(h:base≤b):Below base a w2:=by
 have:=g.size;exact Zaa (hb.trans (Xwa g hz)) hg (by omega) (fun k hk=>by injection hk with hk;omega)
theorem Scn.grow{base b:Nat}{s:List UInt8}{p:Nat}{ts cs:List Tok}{w w1:World}(h:Scn base b s p ts cs w)(g:G w w1):Scn base b s p ts cs w1:=by
 obtain ⟨ta,tc,ca,cc,h,k1,k2,k3,k4⟩:=h.sa;exact (h.grow g).scn k1 k2 k3 k4
theorem SA.putT{base b:Nat}{s:List UInt8}{p:Nat}{ts cs:List Tok}{ta:Option Addr}{tc:Nat}{ca:Option Addr}{cc:Nat}{w w1 w2:World}{ta':Option Addr}{tc':Nat}{t:Tok}(h:SA base b s p ts cs ta tc ca cc w)
 (h1:w1.ownsRow base Vx 3 (.slice ta' (ts.length+1) tc') (ts.length+1) (toksCells ts++tokCells t)) (hg:w.grownBy w1 (Value.slice ta ts.length tc).ownBlock)
 (hat:(Value.slice ta' (ts.length+1) tc').ownBlock=(Value.slice ta ts.length tc).ownBlock∨(Value.slice ta' (ts.length+1) tc').ownBlock=some w.heap.size) (hg2:w1.grownBy w2 (some b))
 (hB:Blk w2 b Yza [Str s,.int .i64 p,.slice ta' (ts.length+1) tc',.slice ca cs.length cc]):SA base b s p (ts++[t]) cs ta' tc' ca cc w2:=by
 have n1:=Ukc h.B.lt h.n1 hat;have hl:(ts++[t]).length=ts.length+1:=by simp
 have hc:=Xgb h.hc h.n3 hg;refine ⟨by rw [hl];exact hB,h.hb,?_,Xw hc hg2 (.inr h.n2),by rw [hl];exact n1,h.n2,?_⟩;rw [hl,Yla];exact Xw h1 hg2 (.inr n1);rw [hl];exact Vua h.hc h.n3 hat
theorem SA.putC{base b:Nat}{s:List UInt8}{p:Nat}{ts cs:List Tok}{ta:Option Addr}{tc:Nat}{ca:Option Addr}{cc:Nat}{w w1 w2:World}{ca':Option Addr}{cc':Nat}{t:Tok}(h:SA base b s p ts cs ta tc ca cc w)
 (h1:w1.ownsRow base Vx 3 (.slice ca' (cs.length+1) cc') (cs.length+1) (toksCells cs++tokCells t)) (hg:w.grownBy w1 (Value.slice ca cs.length cc).ownBlock)
 (hat:(Value.slice ca' (cs.length+1) cc').ownBlock=(Value.slice ca cs.length cc).ownBlock∨(Value.slice ca' (cs.length+1) cc').ownBlock=some w.heap.size) (hg2:w1.grownBy w2 (some b))
 (hB:Blk w2 b Yza [Str s,.int .i64 p,.slice ta ts.length tc,.slice ca' (cs.length+1) cc']):SA base b s p ts (cs++[t]) ta tc ca' cc' w2:=by
 have n2:=Ukc h.B.lt h.n2 hat;have hl:(cs++[t]).length=cs.length+1:=by simp
 have n3':∀ k,(Value.slice ca cs.length cc).ownBlock=some k→(Value.slice ta ts.length tc).ownBlock≠some k:=fun k hk he=>h.n3 k he hk;have ht:=Xgb h.ht n3' hg;refine ⟨by rw [hl];exact hB,h.hb,Xw ht hg2 (.inr h.n1),?_,h.n1,by rw [hl];exact n2,?_⟩;rw [hl,Yla];exact Xw h1 hg2 (.inr n2);rw [hl];exact fun k hk he=>Vua h.ht n3' hat k he hk
def endsT(t:Tok):Bool:=(decide (t.kind=1) || decide (t.kind=2)) || inB endw t.text
def nlTs(p:Nat)(ts:List Tok):List Tok:=match ts.getLast? with
 | some t=>if endsT t=true then ts++[⟨4,[59],p⟩] else ts
 | none=>ts
theorem Xve{w:World}{b:Nat}{ts0:List Tok}{t:Tok}(h:RowAt w b 0 (toksCells (ts0++[t]))):RowAt w b (0+(((ts0++[t]).length:Nat)-1:Int).toNat*3) (tokCells t):=by
 have e:(((ts0++[t]).length:Nat)-1:Int).toNat=ts0.length:=by simp
 have k:=h.part (ts0.length*3) 3;rw [e]
 have e2:((toksCells (ts0++[t])).drop (ts0.length*3)).take 3=tokCells t:=by
  rw [Yla,List.drop_append_of_le_length (by rw [Xfb];exact Nat.le_refl _),List.drop_of_length_le (by rw [Xfb];exact Nat.le_refl _)];rfl
 rw [e2] at k;exact k
theorem Qbe(base b:Nat)(s:List UInt8)(p:Nat)(ts cs:List Tok)(w:World)(hs:Scn base b s p ts cs w)(h2:p<s.length) :
 Ret PP Yyb #[.pointer (some ⟨b,0,none⟩)] w fun v w'=>v = .tuple #[]∧Scn base b s (p+1) (nlTs p ts) cs w'∧Below base w w':=by
 obtain ⟨ta,tc,ca,cc,hs,k1,k2,k3,k4⟩:=hs.sa;have g:=G.refl w;have hb:Below base w w:=Below.refl _ _;refine WK 53 [0] Zib ?_;refine Zj (Zj (Zm (Zq O (Ql O (Yj Jz O (Yq Vl O (by first|exact (hs.grow g).B.at_ O) (Xla Xf O (Yo O (Ze (kq (Zj (Zm (Zq O (Yse O O (Ze (kq (Wm O (fun h1=>?_) (fun h1=>?_))))))))))))))))));have hp:0<ts.length:=by simp only [decide_eq_true_eq] at h1;omega
 obtain ⟨ts0,t,ets⟩:∃ ts0 t,ts=ts0++[t]:=by
  rcases List.eq_nil_or_concat ts with e|⟨l,x,e⟩;rw [e] at hp;cases hp;exact ⟨l,x,by simpa using e⟩
 subst ets;obtain ⟨bt,ct,ev,_,hrow,_⟩:=Uta hs.ht hp;injection ev with e1 e2 e3;subst e1;have hrow':=Xve hrow;have hne:nlTs p (ts0++[t])=if endsT t=true then (ts0++[t])++[⟨4,[59],p⟩] else ts0++[t]:=by simp [nlTs]
 refine Zj (Zm (Zq O (Ql O (Yj Jz O (Yq Vl O (by first|exact (hs.grow g).B.at_ O) (Zq O (Zo O (fun _=>Jja (Zc O) Xg (fun _=>by omega)) (Zfb Xf O O (by omega) (Vf Wq O O (hrow') (AM fun _ _ _ _ g E=>?_))))))))));refine AS fun _ _ _ g E=>?_;refine AU ?_;refine CG (fun hc=>Xpf _ _) (fun w30 g30=>?_);have g:=g.trans g30;replace E:=E.grow g30;refine Zo O (fun _=>Wk (Zc O) (Zk O id)) (Ze (kq (Wm O (fun h2=>?_) (fun h2=>?_))));rw [if_pos (show endsT t=true from h2)] at hne;have hl:(nlTs p (ts0++[t])).length≤p+1:=by rw [hne,List.length_append];exact Nat.succ_le_succ k1
 refine Xe [3,3,3,3,0,3,3,3,0,3,1,2,3,3,2] [true,true,true,true,true,true,true,true,true,true,true,true,true,true,true] [0,0,2,6,14,0,32,96,224,480,992,2046,4095,8191,16383] mix (by kernel_rfl) ?_;have g:=gdr g;replace E:=E.dr;refine Zq O (Zq O (Ql O (Yj Jz O (Yq Vl O (by first|exact (hs.grow g).B.at_ O|exact E.g0.at_ O|exact E.g0.row) (Zq O (Ql O (Yj Xc O (Yq Yd O (by first|exact (hs.grow g).B.at_ O|exact E.g0.at_ O|exact E.g0.row) (Zba Wa Qv (pqc O (pqc O (pqc O pq0))) O O (CN fun _ _ N42 _ g E=>?_))))))))));have hb:=hb.trans (Xwa g hs.base_le);have hs:=hs.grow g;have hz0:=hs.base_le;refine Jc O Xf Wa O (by decide) (Zc O) hs.ht (Zc O) O N42.blk.row O (by simp only [maxLen];omega) (by omega) (by omega) ?_;intro ta' tc' w43 ht' hg43 hat;have hB:=hs.B.keep hg43 (Ne.symm hs.n1);have hz:=hg43.size;refine AU ?_;refine Xi O Wsa (Zc O) (Zc O) O O hB O O ?_;intro w44 hg44 hz44 hB;have hb:=Zaa (Zaa hb hg43 hs.base_le (fun k hk=>(hs.ht.lt k hk).1)) hg44 (by have:=hs.base_le;omega) (fun k hk=>by injection hk with hk;have:=hs.hb;omega);have hs:=hs.putT (t:=⟨4,[59],p⟩) ht' hg43 hat hg44 hB;have g:=G.refl w44;refine AU ?_;refine Xi O Va (Zc O) (Zc O) O O (hs.grow g).B O O ?_;intro w52 hg52 hz52 hB;have hb:=Qvb hb g hg52 hs.base_le hs.hb;have hs:=(hs.grow g).setp (q:=p+1) hg52 hB;refine Ze (Qj O ?_);refine ⟨rfl,?_,hb⟩;rw [hne] at hl ⊢;exact hs.scn hl (by omega) (by omega) k4;rw [if_neg (by intro h;rw [endsT,h2] at h;cases h)] at hne;have hl:(nlTs p (ts0++[t])).length≤p+1:=by rw [hne];omega
 refine AU ?_;refine Xi O Va (Zc O) (Zc O) O O (hs.grow g).B O O ?_;intro w52 hg52 hz52 hB;have hb:=Qvb hb g hg52 hs.base_le hs.hb;have hs:=(hs.grow g).setp (q:=p+1) hg52 hB;refine Ze (Qj O ?_);refine ⟨rfl,?_,hb⟩;rw [hne] at hl ⊢;exact hs.scn hl (by omega) (by omega) k4;have hp:ts=[]:=List.eq_nil_of_length_eq_zero (by simp only [decide_eq_false_iff_not] at h1;omega);have hne:nlTs p ts=ts:=by rw [hp];rfl
 have hl:(nlTs p ts).length≤p+1:=by rw [hne];omega
 refine AU ?_;refine Xi O Va (Zc O) (Zc O) O O (hs.grow g).B O O ?_;intro w52 hg52 hz52 hB;have hb:=Qvb hb g hg52 hs.base_le hs.hb;have hs:=(hs.grow g).setp (q:=p+1) hg52 hB;refine Ze (Qj O ?_);refine ⟨rfl,?_,hb⟩;rw [hne] at hl ⊢;exact hs.scn hl (by omega) (by omega) k4
def runN(q:Int→Bool):List UInt8→Nat
 | []=>0
 | c::l=>if q c.toNat=true then runN q l+1 else 0
theorem Ulc{q:Int→Bool}{s:List UInt8}{k:Nat}(h:k<s.length)(hq:q (s.getD k 0).toNat=true):runN q (s.drop k)=runN q (s.drop (k+1))+1:=by
 rw [List.drop_eq_getElem_cons h,runN,if_pos (by simpa [List.getD_eq_getElem?_getD,List.getElem?_eq_getElem h] using hq)]
theorem Ucd{q:Int→Bool}{s:List UInt8}{k:Nat}(h:k<s.length→q (s.getD k 0).toNat=false):runN q (s.drop k)=0:=by
 by_cases hk:k<s.length;rw [List.drop_eq_getElem_cons hk,runN,if_neg];have:=h hk;simp [List.getD_eq_getElem?_getD,List.getElem?_eq_getElem hk] at this;simp [this];rw [List.drop_of_length_le (by omega)];rfl
theorem Xyg(q:Int→Bool)(l:List UInt8):runN q l≤l.length:=by
 induction l with
 | nil=>exact Nat.le_refl _
 | cons c l ih=>rw [runN];split <;> simp <;> omega
theorem Qce(base b:Nat)(s:List UInt8)(p:Nat)(ts cs:List Tok)(w:World)(hs:Scn base b s p ts cs w)(f:Nat)(q:Int→Bool)(hgo:goFn PP f=true)(hf:∀ c w,Ret PP f #[.int .u8 c] w fun v w'=>v = .bool (q c)∧G w w') :
 Ret PP Zuc #[.pointer (some ⟨b,0,none⟩),.func (.func f) #[] #[]] w fun v w'=>v = .int .i64 (runN q (s.drop p))∧G w w':=by
 obtain ⟨ta,tc,ca,cc,hs,k1,k2,k3,k4⟩:=hs.sa;have g:=G.refl w;refine WK 36 [0,1] Ucb ?_;refine AU ?_;refine Wpa (fun (n:Nat) u=>p+n≤s.length∧runN q (s.drop p)=n+runN q (s.drop (p+n))∧G w u) (fun n=>[(0,True,.pointer (some ⟨b,0,none⟩)),(1,True,.func (.func f) #[] #[]),(5,True,.int .i64 n)]) (fun n=>s.length-n) 0 ⟨by omega,by simp,g⟩ (Za O (Za O (Za O (Zp _)))) ?_;rintro n u ⟨hn,he,g⟩;refine AU ?_;refine Xe [3,3,3,0,3,3,3,3,3,0,3,3,3,3,3,3,3,0,3,3,3,0,3,3,3,1,3] [true,true,true,true,true,true,true,true,true,true,true,true,true,true,true,true,true,true,true,true,true,true,true,true,true,true,true] [0,1,3,7,0,31,0,64,192,448,960,2047,4095,8191,8191,24575,57343,122879,8191,270335,794623,1843199,8191,8134655,16769023,33554431,67108863] mix (by kernel_rfl) ?_;have g:=gdr g;refine AU ?_;refine Zi O O O (fun _=>Jj Yu (Zk O id) (Zk O id) (fun hc=>by have:=of_decide_eq_true hc.2;omega)) (Xy O O O (fun _=>(Yl hgo (Zk O id) (Yr (Zk O id) (Xl)) O)) (fun hc=>hf _ _) (fun w31 g31=>?_));have g:=g.trans g31;refine IF (fun h1=>?_) fun h1=>?_;simp only [Bool.and_eq_true,decide_eq_true_eq] at h1;obtain ⟨h1,h2⟩:=h1;have e:((p:Int)+n).toNat=p+n:=by omega
 rw [e] at h2;have hst:=Ulc (by omega) h2;refine AU ?_;refine SK [0,1,5] ?_;refine Ze (fun a ha=>?_);exact ⟨n+1,ha,⟨by omega,by rw [he,hst,Nat.add_assoc p n 1];omega,g⟩,by omega⟩
 have hst:runN q (s.drop (p+n))=0:=Ucd fun hk=>by
  have e:((p:Int)+n).toNat=p+n:=by omega
  rw [e,Ywh (by omega:(p:Int)+n<s.length),Bool.true_and] at h1;exact h1
 refine RTN ?_;refine ⟨?_,g⟩;rw [he,hst];rfl
end Go.Rk
namespace Go.Rk
open Go.Proofs
open Go Go.Shelf Go.RowKit
def Zde:Go.Shelf.Ren:=⟨fun|174=>133|247=>144|245=>145|287=>149|279=>150|280=>151|281=>152|282=>153|321=>154|322=>155|316=>156|171=>158|205=>157|243=>159|246=>160|283=>161|284=>162|285=>163|286=>164|129=>166|317=>165|318=>167|319=>168|320=>169|337=>170|338=>171|n=>n,fun|9=>9|3=>3|2=>2|75=>119|85=>120|4=>4|167=>136|5=>5|53=>109|175=>137|46=>139|168=>140|37=>144|0=>0|210=>146|21=>21|127=>148|145=>151|143=>149|171=>153|173=>156|212=>160|51=>161|20=>20|213=>162|232=>166|233=>167|80=>83|n=>n,fun|15=>2|16=>3|17=>4|18=>5|19=>6|n=>n⟩
theorem Xwe:Go.Proofs.LaysC.n174 PP Zde:={
 mixed:=by kernel_rfl
 f129:=Tryz.func166.trans (congrArg some (by kernel_rfl))
 f171:=Tryz.func158.trans (congrArg some (by kernel_rfl))
 f174:=Tryz.func133.trans (congrArg some (by kernel_rfl))
 f205:=Tryz.func157.trans (congrArg some (by kernel_rfl))
 f243:=Tryz.func159.trans (congrArg some (by kernel_rfl))
 f245:=Tryz.func145.trans (congrArg some (by kernel_rfl))
 f246:=Tryz.func160.trans (congrArg some (by kernel_rfl))
 f247:=Tryz.func144.trans (congrArg some (by kernel_rfl))
 f279:=Tryz.func150.trans (congrArg some (by kernel_rfl))
 f280:=Tryz.func151.trans (congrArg some (by kernel_rfl))
 f281:=Tryz.func152.trans (congrArg some (by kernel_rfl))
 f282:=Tryz.func153.trans (congrArg some (by kernel_rfl))
 f283:=Tryz.func161.trans (congrArg some (by kernel_rfl))
 f284:=Tryz.func162.trans (congrArg some (by kernel_rfl))
 f285:=Tryz.func163.trans (congrArg some (by kernel_rfl))
 f286:=Tryz.func164.trans (congrArg some (by kernel_rfl))
 f287:=Tryz.func149.trans (congrArg some (by kernel_rfl))
 f316:=Tryz.func156.trans (congrArg some (by kernel_rfl))
 f317:=Tryz.func165.trans (congrArg some (by kernel_rfl))
 f318:=Tryz.func167.trans (congrArg some (by kernel_rfl))
 f319:=Tryz.func168.trans (congrArg some (by kernel_rfl))
 f320:=Tryz.func169.trans (congrArg some (by kernel_rfl))
 f321:=Tryz.func154.trans (congrArg some (by kernel_rfl))
 f322:=Tryz.func155.trans (congrArg some (by kernel_rfl))
 f337:=Tryz.func170.trans (congrArg some (by kernel_rfl))
 f338:=Tryz.func171.trans (congrArg some (by kernel_rfl))
 t0:=Tryz.underlying0
 a0:=Tryz.isAgg0
 z0:=Tryz.sizeOf0
 v0:=Tryz.zeroValue0
 t2:=Tryz.underlying2
 a2:=Tryz.isAgg2
 z2:=Tryz.sizeOf2
 v2:=Tryz.zeroValue2
 t3:=Tryz.underlying3
 a3:=Tryz.isAgg3
 z3:=Tryz.sizeOf3
 v3:=Tryz.zeroValue3
 t4:=Tryz.underlying4
 a4:=Tryz.isAgg4
 z4:=Tryz.sizeOf4
 v4:=Tryz.zeroValue4
 t5:=Tryz.underlying5
 a5:=Tryz.isAgg5
 z5:=Tryz.sizeOf5
 v5:=Tryz.zeroValue5
 t9:=Tryz.underlying9
 a9:=Tryz.isAgg9
 z9:=Tryz.sizeOf9
 v9:=Tryz.zeroValue9
 t20:=Tryz.underlying20
 a20:=Tryz.isAgg20
 z20:=Tryz.sizeOf20
 v20:=Tryz.zeroValue20
 t21:=Tryz.underlying21
 a21:=Tryz.isAgg21
 z21:=Tryz.sizeOf21
 v21:=Tryz.zeroValue21
 t37:=Tryz.underlying144
 a37:=Tryz.isAgg144
 z37:=Tryz.sizeOf144
 v37:=Tryz.zeroValue144
 t46:=Tryz.underlying139
 a46:=Tryz.isAgg139
 z46:=Tryz.sizeOf139
 v46:=Tryz.zeroValue139
 t51:=Tryz.underlying161
 a51:=Tryz.isAgg161
 z51:=Tryz.sizeOf161
 v51:=Tryz.zeroValue161
 t53:=Tryz.underlying109
 a53:=Tryz.isAgg109
 z53:=Tryz.sizeOf109
 v53:=Tryz.zeroValue109
 t75:=Tryz.underlying119
 a75:=Tryz.isAgg119
 z75:=Tryz.sizeOf119
 v75:=Tryz.zeroValue119
 t85:=Tryz.underlying120
 a85:=Tryz.isAgg120
 z85:=Tryz.sizeOf120
 v85:=Tryz.zeroValue120
 t127:=Tryz.underlying148
 a127:=Tryz.isAgg148
 z127:=Tryz.sizeOf148
 v127:=Tryz.zeroValue148
 t143:=Tryz.underlying149
 a143:=Tryz.isAgg149
 z143:=Tryz.sizeOf149
 v143:=Tryz.zeroValue149
 t145:=Tryz.underlying151
 a145:=Tryz.isAgg151
 z145:=Tryz.sizeOf151
 v145:=Tryz.zeroValue151
 t167:=Tryz.underlying136
 a167:=Tryz.isAgg136
 z167:=Tryz.sizeOf136
 v167:=Tryz.zeroValue136
 t168:=Tryz.underlying140
 a168:=Tryz.isAgg140
 z168:=Tryz.sizeOf140
 v168:=Tryz.zeroValue140
 t171:=Tryz.underlying153
 a171:=Tryz.isAgg153
 z171:=Tryz.sizeOf153
 v171:=Tryz.zeroValue153
 t173:=Tryz.underlying156
 a173:=Tryz.isAgg156
 z173:=Tryz.sizeOf156
 v173:=Tryz.zeroValue156
 t175:=Tryz.underlying137
 a175:=Tryz.isAgg137
 z175:=Tryz.sizeOf137
 v175:=Tryz.zeroValue137
 t210:=Tryz.underlying146
 a210:=Tryz.isAgg146
 z210:=Tryz.sizeOf146
 v210:=Tryz.zeroValue146
 t212:=Tryz.underlying160
 a212:=Tryz.isAgg160
 z212:=Tryz.sizeOf160
 v212:=Tryz.zeroValue160
 t213:=Tryz.underlying162
 a213:=Tryz.isAgg162
 z213:=Tryz.sizeOf162
 t232:=Tryz.underlying166
 a232:=Tryz.isAgg166
 z232:=Tryz.sizeOf166
 v232:=Tryz.zeroValue166
 t233:=Tryz.underlying167
 a233:=Tryz.isAgg167
 z233:=Tryz.sizeOf167
 v233:=Tryz.zeroValue167
 g15:=by kernel_rfl
 g16:=by kernel_rfl
 g17:=by kernel_rfl
 g18:=by kernel_rfl
 g19:=by kernel_rfl
 t80:=Tryz.underlying83
 a80:=Tryz.isAgg83
 z80:=Tryz.sizeOf83
 v80:=Tryz.zeroValue83
 i0:=by kernel_rfl
 i2:=by kernel_rfl
 i3:=by kernel_rfl
 i4:=by kernel_rfl
 i5:=by kernel_rfl
 i9:=by kernel_rfl
 i20:=by kernel_rfl
 i21:=by kernel_rfl
 i37:=by kernel_rfl
 i46:=by kernel_rfl
 i51:=by kernel_rfl
 i53:=by kernel_rfl
 i75:=by kernel_rfl
 i80:=by kernel_rfl
 i85:=by kernel_rfl
 i127:=by kernel_rfl
 i143:=by kernel_rfl
 i145:=by kernel_rfl
 i167:=by kernel_rfl
 i168:=by kernel_rfl
 i171:=by kernel_rfl
 i173:=by kernel_rfl
 i175:=by kernel_rfl
 i210:=by kernel_rfl
 i212:=by kernel_rfl
 i232:=by kernel_rfl
 i233:=by kernel_rfl
 m15:=by kernel_rfl
 m16:=by kernel_rfl
 m17:=by kernel_rfl
 m18:=by kernel_rfl
 m19:=by kernel_rfl
 c0:=by kernel_rfl
 c2:=by kernel_rfl
 c3:=by kernel_rfl
 c4:=by kernel_rfl
 c5:=by kernel_rfl
 c9:=by kernel_rfl
 c20:=by kernel_rfl
 c21:=by kernel_rfl
 c37:=by kernel_rfl
 c46:=by kernel_rfl
 c51:=by kernel_rfl
 c53:=by kernel_rfl
 c75:=by kernel_rfl
 c80:=by kernel_rfl
 c85:=by kernel_rfl
 c127:=by kernel_rfl
 c143:=by kernel_rfl
 c145:=by kernel_rfl
 c167:=by kernel_rfl
 c168:=by kernel_rfl
 c171:=by kernel_rfl
 c173:=by kernel_rfl
 c175:=by kernel_rfl
 c210:=by kernel_rfl
 c212:=by kernel_rfl
 c213:=by kernel_rfl
 c232:=by kernel_rfl
 c233:=by kernel_rfl }
def valN(a:Nat)(l:List UInt8):Nat:=l.foldl (fun a c=>a*10+(c.toNat-48)) a
def allD(l:List UInt8):Prop:=∀ c∈l,48≤c.toNat∧c.toNat≤57
theorem Xhb(a:Nat)(c:UInt8)(l:List UInt8):valN a (c::l)=valN (a*10+(c.toNat-48)) l:=List.foldl_cons ..
theorem Xzg(l:List UInt8):∀ a,a≤valN a l:=by
 induction l with
 | nil=>exact fun a=>Nat.le_refl _
 | cons c l ih=>intro a;have:=ih (a*10+(c.toNat-48));rw [Xhb];omega
theorem Yrc(M:Nat)(hM:M=18446744073709551615):∀ (l:List UInt8) (a:Nat),allD l→Lib.parseUintM M a l=if l=[] then .ok a else if valN a l≤M then .ok (valN a l) else .range
 | [],a,_=>rfl
 | c::l,a,h=>by
  have hc:=h c (List.mem_cons_self ..);have ih:=Yrc M hM l (a*10+(c.toNat-48)) (fun x hx=>h x (List.mem_cons_of_mem _ hx));have hge:=Xzg l (a*10+(c.toNat-48));rw [if_neg (by simp:¬ (c::l)=[]),Xhb];rw [Lib.parseUintM,if_pos hc];generalize hv:a*10+(c.toNat-48)=v at ih hge ⊢;by_cases h1:1844674407370955162≤a;rw [if_pos h1,if_neg (by omega)];rw [if_neg h1];by_cases h2:M<v;rw [if_pos h2,if_neg (by omega)];rw [if_neg h2,ih];by_cases hl:l=[];subst hl;rw [if_pos rfl];rw [if_pos (show valN v []≤M by show v≤M;omega)];rfl;rw [if_neg hl]
theorem Vsd(l:List UInt8)(h:allD l)(hne:l≠[]):Lib.parseIntB 64 l=if valN 0 l<9223372036854775808 then .ok (valN 0 l:Int) else .range:=by
 cases l with
 | nil=>exact absurd rfl hne
 | cons c r =>
  have hc:=h c (List.mem_cons_self ..);have e1:(2:Nat) ^ (64-1)=9223372036854775808:=by decide
  have e2:(2:Nat) ^ 64-1=18446744073709551615:=by decide
  have hm:=Yrc _ rfl (c::r) 0 h;rw [if_neg (by simp:¬ (c::r)=[])] at hm;simp only [Lib.parseIntB,Lib.parseUintB,e1,e2];rw [if_neg (by omega:¬ (c.toNat=43∨c.toNat=45)),if_neg (by simp:¬ (c::r)=[]),hm];by_cases h2:valN 0 (c::r)≤18446744073709551615;rw [if_pos h2];by_cases h3:valN 0 (c::r)<9223372036854775808;rw [if_pos h3];simp only [];rw [if_neg (by omega),if_neg (by omega),if_neg (by omega)];rw [if_neg h3];simp only [];rw [if_pos (by omega)];rw [if_neg h2,if_neg (by omega)]
theorem Ukf(l:List UInt8)(h:allD l)(hne:l≠[])(hl:l.length≤20000)(w:World)(ev:Value)(hv:w.cell? ⟨3,0,none⟩=some ev)(hev:ev = .nilIface∨∃ te pe,ev = .iface te pe) :
 Ret PP Zwc #[Str l,.int .i64 10,.int .i64 64] w fun v w'=>(∃ x e,v = .tuple #[.int .i64 x,e]∧(e = .nilIface∨∃ a b,e = .iface a b)∧nilV e=decide (valN 0 l<9223372036854775808))∧G w w':=by
 have hp:=Vsd l h hne;by_cases h3:valN 0 l<9223372036854775808;rw [if_pos h3] at hp;refine (Go.Proofs.Any.strconv_ParseInt_10_at64_ok Xwe ⟨l.toArray⟩ (by simp [ByteArray.size];omega) _ (by simpa using hp) w).mono ?_;rintro e w' ⟨rfl,hw⟩;refine ⟨_,rfl,⟨_,.nilIface,rfl,.inl rfl,by rw [Ywh h3];rfl⟩,?_⟩;rcases hw with rfl|⟨t,rfl⟩;exact G.refl _;exact Lib.bytesWorld_below _ _ _;rw [if_neg h3] at hp;refine (Go.Proofs.Any.strconv_ParseInt_10_at64_range Xwe ⟨l.toArray⟩ (by simp [ByteArray.size];omega) (by simpa using hp) ev w hv hev).mono ?_;rintro e w' ⟨N,rfl,_,_,hb⟩;exact ⟨_,rfl,⟨_,_,rfl,.inr ⟨_,_,rfl⟩,by rw [Yvh h3];rfl⟩,hb⟩
end Go.Rk
namespace Go.Rk
open Go.Proofs
open Go Go.RowKit
def opsL:List (List UInt8):=[[58,61],[61,61],[33,61],[60,61],[62,61],[38,38],[124,124],[60,45],[40],[41],[91],[93],[123],[125],[44],[59],[58],[46],[61],[60],[62],[43],[45],[42],[47],[37],[33]]
structure Laid (w:World):Prop where
  ops:RowAt w 1 0 (opsL.map Str)
  err:∃ ev,w.cell? ⟨3,0,none⟩=some ev∧(ev = .nilIface∨∃ te pe,ev = .iface te pe)
theorem Laid.below{w w':World}{base:Nat}(h:Laid w)(hb:4≤base)(g:Below base w w'):Laid w' :=
 ⟨fun j v hj=>(Below.cell g (show 1<base by omega)).trans (h.ops j v hj),by
 obtain ⟨ev,h1,h2⟩:=h.err;exact ⟨ev,(Below.cell g (show 3<base by omega)).trans h1,h2⟩⟩
theorem Laid.grow{w w':World}(h:Laid w)(g:G w w'):Laid w' :=
 ⟨h.ops.grow g,by
 obtain ⟨ev,h1,h2⟩:=h.err;exact ⟨ev,Jqb g h1,h2⟩⟩
def cAt(s:List UInt8)(p:Nat):Int:=((s.getD p 0).toNat:Int)
def isNotLf(c:Int):Bool:=!decide (c=10)
def isAlnum(c:Int):Bool:=letterB c || digitB c
def Xib(l:List UInt8):Nat:=match opsL.find? (fun o=>preB o l) with
 | some o=>o.length
 | none=>0
def badD(s:List UInt8)(p n:Nat):Bool:=(decide (cAt s p=48)&&decide ((1:Int)<n)) || (decide ((p:Int)+n<s.length)&&letterB (cAt s (p+n)))
def wordK(l:List UInt8):Int:=bif inB kws l then 3 else 1
def nextF(s:List UInt8)(p:Nat)(ts cs:List Tok):Nat×List Tok×List Tok×Int :=
 bif decide (cAt s p=10) then (p+1,nlTs p ts,cs,0)
 else bif (decide (cAt s p=32) || decide (cAt s p=9)) || decide (cAt s p=13) then (p+1,ts,cs,0)
 else bif preB [47,47] (s.drop p) then (p+runN isNotLf (s.drop p),ts,cs++[⟨5,(s.drop p).take (runN isNotLf (s.drop p)),p⟩],0)
 else bif letterB (cAt s p) then bif decide ((32:Int)<runN isAlnum (s.drop p)) then (p,ts,cs,3)
  else (p+runN isAlnum (s.drop p),ts++[⟨wordK ((s.drop p).take (runN isAlnum (s.drop p))),(s.drop p).take (runN isAlnum (s.drop p)),p⟩],cs,0)
 else bif digitB (cAt s p) then bif badD s p (runN digitB (s.drop p)) then (p,ts,cs,4)
  else bif decide (valN 0 ((s.drop p).take (runN digitB (s.drop p)))<9223372036854775808) then (p+runN digitB (s.drop p),ts++[⟨2,(s.drop p).take (runN digitB (s.drop p)),p⟩],cs,0) else (p,ts,cs,4)
 else bif Nat.beq (Xib (s.drop p)) 0 then (p,ts,cs,4)
 else (p+Xib (s.drop p),ts++[⟨4,(s.drop p).take (Xib (s.drop p)),p⟩],cs,0)
theorem Vva{q:Int→Bool}{s:List UInt8}{p:Nat}(h:p<s.length)(hq:q (cAt s p)=true):1≤runN q (s.drop p):=by rw [Ulc h hq];omega
theorem Wla(q:Int→Bool){s:List UInt8}{p:Nat}(h:p<s.length):p+runN q (s.drop p)≤s.length:=by
 have:=Xyg q (s.drop p);rw [List.length_drop] at this;omega
theorem Yvd(q:Int→Bool):∀ (l:List UInt8),∀ c∈l.take (runN q l),q c.toNat=true
 | [],c,hc=>by cases hc
 | a::l,c,hc=>by
  rw [runN] at hc;split at hc;rename_i h;rw [List.take_succ_cons] at hc;rcases List.mem_cons.mp hc with rfl|hc;exact h;exact Yvd q l c hc;cases hc
theorem Qwb(s:List UInt8)(p:Nat):allD ((s.drop p).take (runN digitB (s.drop p))):=fun c hc=>by
 have:=Yvd digitB _ c hc;simp only [digitB,Bool.and_eq_true,decide_eq_true_eq] at this;omega
theorem Wag{i:Nat}(h:i<27):(opsL.map Str).toArray[i]? = some (Str (opsL.getD i [])):=by
 have hl:opsL.length=27:=rfl;simp [List.getD_eq_getElem?_getD,List.getElem?_eq_getElem (show i<opsL.length by omega)]
theorem Ulf:∀ i<27,1≤(opsL.getD i []).length:=by decide
theorem Qde{l:List UInt8}{i:Nat}(h:i<27)(h1:∀ j<i,preB (opsL.getD j []) l=false)(h2:preB (opsL.getD i []) l=true):Xib l=(opsL.getD i []).length:=by
 have hl:opsL.length=27:=rfl
 have:opsL.find? (fun o=>preB o l)=some (opsL.getD i []):=by
  rw [List.find?_eq_some_iff_getElem];refine ⟨h2,i,by omega,?_,fun j hj=>?_⟩;simp [List.getD_eq_getElem?_getD,List.getElem?_eq_getElem (show i<opsL.length by omega)];have:=h1 j hj;simp [List.getD_eq_getElem?_getD,List.getElem?_eq_getElem (show j<opsL.length by omega)] at this;simp [this]
 rw [Xib,this]
theorem Qee{l:List UInt8}(h1:∀ j<27,preB (opsL.getD j []) l=false):Xib l=0:=by
 have hl:opsL.length=27:=rfl
 have:opsL.find? (fun o=>preB o l)=none:=by
  rw [List.find?_eq_none];intro o ho;obtain ⟨j,hj,rfl⟩:=List.getElem_of_mem ho;have:=h1 j (by omega);simp [List.getD_eq_getElem?_getD,List.getElem?_eq_getElem hj] at this;simp [this]
 rw [Xib,this]
theorem Umf{o l:List UInt8}(h:preB o l=true):o.length≤l.length∧l.take o.length=o:=by
 simpa [preB] using h
theorem Wbg(base b:Nat)(hb3:4≤base)(s:List UInt8)(p:Nat)(ts cs:List Tok)(w:World)(hL:Laid w)(hs:Scn base b s p ts cs w)(hp:p<s.length) :
 Ret PP Qhb #[.pointer (some ⟨b,0,none⟩)] w fun v w'=>v = .int .i64 (nextF s p ts cs).2.2.2∧Scn base b s (nextF s p ts cs).1 (nextF s p ts cs).2.1 (nextF s p ts cs).2.2.1 w'∧Below base w w':=by
 obtain ⟨ta,tc,ca,cc,hs,k1,k2,k3,k4⟩:=hs.sa;have g:=G.refl w;refine Jx (m:=204) Wkb O O [(0,True,_)] (Za O (Zp _)) ?_;refine Zj (Zm (Yo O (Ze (kq (Zj (Xe [3,3,3,0,3,3,3,0,3,3] [true,true,true,true,true,true,true,true,true,true] [0,1,3,7,0,16,48,112,255,511] mix (by kernel_rfl) ?_))))));have g:=gdr g;refine Zq O (Ql O (Yj Vq O (Yq Yg O (by first|exact (hs.grow g).B.at_ O) (Zq O (Ql O (Yj Xc O (Yq Yd O (by first|exact (hs.grow g).B.at_ O) (Zo O (fun _=>Jj Yu (Zc O) (Zc O) (fun _=>by omega)) (Yo O (Ze (kq (Zj (Yv (Zj (Zm (Zq O (?_)))))))))))))))));refine Zwa O O (Yo O (Ze (kq (Wm O (fun h1=>?_) (fun h1=>?_)))));replace h1:decide (cAt s p=10)=true:=h1;have hN:nextF s p ts cs=(p+1,nlTs p ts,cs,0):=by unfold nextF;rw [h1];rfl
 refine Zm (Zq O (CL (Qbe base b s p ts cs _ ((hs.grow g).scn k1 k2 k3 k4) hp) ?_));rintro v45 w45 ⟨rfl,hs',hb'⟩;refine ⟨nw1,?_⟩;have hb':=(Xwa g hs.base_le).trans hb';refine Ze (kq (Zj (Zm (Yo O (Ze (kq (Xd (Vy O O ?_))))))));rw [hN];exact ⟨rfl,hs',hb'⟩;replace h1:decide (cAt s p=10)=false:=h1;refine Zj (Zm (Zq O (Zwa O O (Zq O (Zi O O O (fun _=>Zl (Zc O)) (Zi O O O (fun _=>Zla (Zk O id) Xg) (Zo O (fun _=>Wk (Zc O) (Zk O id)) (Zq O (Zi O O O (fun _=>Zl (Zc O)) (Zi O O O (fun _=>Zla (Zk O id) Xg) (Zo O (fun _=>Wk (Zc O) (Zk O id)) (Yo O (Ze (kq (Wm O (fun h2=>?_) (fun h2=>?_))))))))))))))));replace h2:((decide (cAt s p=32) || decide (cAt s p=9)) || decide (cAt s p=13))=true:=h2;have hN:nextF s p ts cs=(p+1,ts,cs,0):=by unfold nextF;rw [h1,h2];rfl
 refine Zm (Zq O (Ql O (Yj Xc O (Yq Yd O (by first|exact (hs.grow g).B.at_ O) (Qqa O O (by omega) (Ql O (Yj Xc O (Xi O Va (Zc O) (Zc O) O O (hs.grow g).B O O ?_))))))));intro w63 hg63 hz63 hB;have hb':=Qvb (Below.refl _ _) g hg63 hs.base_le hs.hb;have hs':=((hs.grow g).setp (q:=p+1) hg63 hB).scn (by omega) (by omega) (by omega) k4;refine Ze (kq (Zj (Zm (Yo O (Ze (kq (Xd (Vy O O ?_))))))));rw [hN];exact ⟨rfl,hs',hb'⟩;replace h2:((decide (cAt s p=32) || decide (cAt s p=9)) || decide (cAt s p=13))=false:=h2;refine Zj (Xe [3,3,3,0,3,3,3,0,3,1,3] [true,true,true,true,true,true,true,true,true,true,true] [0,1,3,7,0,16,48,112,255,511,1023] mix (by kernel_rfl) ?_);have g:=gdr g;refine Zq O (Ql O (Yj Vq O (Yq Yg O (by first|exact (hs.grow g).B.at_ O) (Zq O (Ql O (Yj Xc O (Yq Yd O (by first|exact (hs.grow g).B.at_ O) (Zo O (fun _=>Ulb Yu (Zc O) (Zc O) (fun _=>by omega)) (Vh O (Yl Qba Vi (aqc O (aqc O aq0)) O) (Yqc _ _ _) (fun w74 g74=>?_))))))))));have g:=g.trans g74;refine Yo O (Ze (kq (Wm O (fun h3=>?_) (fun h3=>?_))));replace h3:preB [47,47] (s.drop p)=true:=h3;have hn:=Vva (q:=isNotLf) hp (by rw [isNotLf,h1];rfl);have hf:=Wla isNotLf hp;have hN:nextF s p ts cs=(p+runN isNotLf (s.drop p),ts,cs++[⟨5,(s.drop p).take (runN isNotLf (s.drop p)),p⟩],0):=by unfold nextF;rw [h1,h2,h3];rfl
 have e:((p:Int)+(runN isNotLf (s.drop p):Nat)).toNat-(p:Int).toNat=runN isNotLf (s.drop p):=by omega
 refine Zj (Zm (Zq O (Vh O (Yl Wda Vi (aqc O (aqc O aq0)) O) (Qce base b s p ts cs _ ((hs.grow g).scn k1 k2 k3 k4) _ isNotLf Wqb Uif) (fun w76 g76=>?_))));have g:=g.trans g76;refine Yo O (Ze (kq (Zj (Xe [3,3,3,3,0,3,3,3,0,3,3,3,0,3,3,3,0,3,3,3,3,3,3,0,3,1,2,3,3,2] [true,true,true,true,true,true,true,true,true,true,true,true,true,true,true,true,true,true,true,true,true,true,true,true,true,true,true,true,true,true] [0,0,2,6,14,0,32,96,224,0,512,1536,3584,0,8192,24576,57344,0,253952,524256,0,1048576,3145728,7340032,16777184,33554400,67108862,134217727,268435455,536870911] mix (by kernel_rfl) ?_))));have g:=gdr g;refine Zq O (Zq O (Ql O (Yj Vta O (Yq Vl O (by first|exact (hs.grow g).B.at_ O) (Zq O (Ql O (Yj Vq O (Yq Yg O (by first|exact (hs.grow g).B.at_ O) (Zq O (Ql O (Yj Xc O (Yq Yd O (by first|exact (hs.grow g).B.at_ O) (Zq O (Ql O (Yj Xc O (?_))))))))))))))));refine Yq Yd O (by first|exact (hs.grow g).B.at_ O) (Zq O (Qqa O O (by omega) (Zo O (fun _=>Xxb Yu (Zc O) (Zc O) (Zc O) (fun _=>by omega)) (Zq O (Ql O (Yj Xc O (Yq Yd O (by first|exact (hs.grow g).B.at_ O) (Zba Wa Qv (pqc O (pqc O (pqc O pq0))) O O (CM fun _ _ N102 _ g E=>?_)))))))));have hb:=Xwa g hs.base_le;have hs:=hs.grow g;have hz0:=hs.base_le;refine Jc O Xf Wa O (by decide) (Zc O) hs.hc (Zc O) O N102.blk.row O (by simp only [maxLen];omega) (by omega) (by omega) ?_;intro ca' cc' w103 hc' hg103 hat;have hB:=hs.B.keep hg103 (Ne.symm hs.n2);have hz:=hg103.size;refine Ql O (Yj Vta O (Xi O Wsa (Zc O) (Zc O) O O hB O O ?_));intro w105 hg105 hz105 hB
 have hb:=Zaa (Zaa hb hg103 hs.base_le (fun k hk=>(hs.hc.lt k hk).1)) hg105 (by have:=hs.base_le;omega) (fun k hk=>by injection hk with hk;have:=hs.hb;omega);rw [e] at hc';have hs:=hs.putC (t:=⟨5,(s.drop p).take (runN isNotLf (s.drop p)),p⟩) hc' hg103 hat hg105 hB;have g:=G.refl w105;refine Ze (kq (Zm (Zq O (Ql O (Yj Xc O (Yq Yd O (by first|exact (hs.grow g).B.at_ O|exact E.g0.at_ O|exact E.g0.row) (Zq O (Qqa O O (by omega) (Ql O (Yj Xc O (Xi O Va (Zc O) (Zc O) O O (hs.grow g).B O O ?_)))))))))));intro w113 hg113 hz113 hB;have hb':=Qvb hb g hg113 hs.base_le hs.hb;have hs':=((hs.grow g).setp (q:=p+runN isNotLf (s.drop p)) hg113 hB).scn (by omega) (by rw [List.length_append];show cs.length+1≤_;omega) hf k4;refine Vc [(2,_,_)] (Za O (Zp _)) (Ze (kq (Zj (Zm (Yo O (Ze (kq (Xd (Vy O O ?_)))))))));rw [hN];exact ⟨rfl,hs',hb'⟩;replace h3:preB [47,47] (s.drop p)=false:=h3;refine Zj (Zm (Zq O (Vh O (Yl Qmb Vi (aqc O aq0) O) (Ujc _ _) (fun w116 g116=>?_))));have g:=g.trans g116;refine Yo O (Ze (kq (Wm O (fun h4=>?_) (fun h4=>?_))));replace h4:letterB (cAt s p)=true:=h4;have hn:=Vva (q:=isAlnum) hp (by rw [isAlnum,h4];rfl);have hf:=Wla isAlnum hp;have e:((p:Int)+(runN isAlnum (s.drop p):Nat)).toNat-(p:Int).toNat=runN isAlnum (s.drop p):=by omega
 refine Zj (Zm (Zq O (Vh O (Yl Wda Vi (aqc O (aqc O aq0)) O) (Qce base b s p ts cs _ ((hs.grow g).scn k1 k2 k3 k4) _ isAlnum Wsb Ujf) (fun w118 g118=>?_))));have g:=g.trans g118;refine Yo O (Ze (kq (Zj (Zj (Zm (Zq O (Yse O O (Ze (kq (Wm O (fun h5=>?_) (fun h5=>?_)))))))))));have hN:nextF s p ts cs=(p,ts,cs,3):=by unfold nextF;rw [h1,h2,h3,h4,h5];rfl
 have hs':=(hs.grow g).scn k1 k2 k3 k4;have hb':=Xwa g hs.base_le;refine Zj (Zm (Yo O (Ze (kq (Xd (Vy O O ?_))))));rw [hN];exact ⟨rfl,hs',hb'⟩;refine Ya (kq (Zj (Zm (Yo O (Ze (kq (Zj (Zj (Xe [3,3,3,0,3,3,3,0,3,3,3,0,3,3,3,1] [true,true,true,true,true,true,true,true,true,true,true,true,true,true,true,true] [0,1,3,7,0,16,48,112,0,256,768,1792,0,7936,16383,32767] mix (by kernel_rfl) ?_)))))))));have g:=gdr g;refine Zq O (Ql O (Yj Vq O (Yq Yg O (by first|exact (hs.grow g).B.at_ O) (Zq O (Ql O (Yj Xc O (Yq Yd O (by first|exact (hs.grow g).B.at_ O) (Zq O (Ql O (Yj Xc O (Yq Yd O (by first|exact (hs.grow g).B.at_ O) (Zq O (Qqa O O (by omega) (Zo O (fun _=>Xxb Yu (Zc O) (Zc O) (Zc O) (fun _=>by omega)) (Vh O (Yl Jcc Vi (aqc O aq0) O) (Qae _ _) (fun w136 g136=>?_))))))))))))))));have g:=g.trans g136;refine Ze (kq (Wm O (fun h6=>?_) (fun h6=>?_)));rw [e] at h6;replace h6:inB kws ((s.drop p).take (runN isAlnum (s.drop p)))=true:=h6;have hN:nextF s p ts cs=(p+runN isAlnum (s.drop p),ts++[⟨3,(s.drop p).take (runN isAlnum (s.drop p)),p⟩],cs,0):=by unfold nextF;rw [h1,h2,h3,h4,h5,wordK,h6];rfl
 refine Zm (Yo O (Ze (kq (Zm (Zq O (Zq O (Zq O (CL (Zce base b s p ts cs _ _ _ ((hs.grow g).scn k1 k2 k3 k4) hn hf) ?_))))))));rintro v140 w140 ⟨rfl,hs',hb'⟩;refine ⟨nw1,?_⟩;have hb':=(Xwa g hs.base_le).trans hb';refine Ze (kq (Zj (Zm (Yo O (Ze (kq (Xd (Vy O O ?_))))))));rw [hN];exact ⟨rfl,hs',hb'⟩;rw [e] at h6;replace h6:inB kws ((s.drop p).take (runN isAlnum (s.drop p)))=false:=h6;have hN:nextF s p ts cs=(p+runN isAlnum (s.drop p),ts++[⟨1,(s.drop p).take (runN isAlnum (s.drop p)),p⟩],cs,0):=by unfold nextF;rw [h1,h2,h3,h4,h5,wordK,h6];rfl
 refine Ya (kq (Zm (Zq O (Zq O (Zq O (CL (Zce base b s p ts cs _ _ _ ((hs.grow g).scn k1 k2 k3 k4) hn hf) ?_))))));rintro v140 w140 ⟨rfl,hs',hb'⟩;refine ⟨nw1,?_⟩;have hb':=(Xwa g hs.base_le).trans hb';refine Ze (kq (Zj (Zm (Yo O (Ze (kq (Xd (Vy O O ?_))))))));rw [hN];exact ⟨rfl,hs',hb'⟩;replace h4:letterB (cAt s p)=false:=h4;refine Zj (Zm (Zq O (Vh O (Yl Yjc Vi (aqc O aq0) O) (Yud _ _) (fun w143 g143=>?_))));have g:=g.trans g143;refine Yo O (Ze (kq (Wm O (fun h7=>?_) (fun h7=>?_))));replace h7:digitB (cAt s p)=true:=h7;have hn:=Vva (q:=digitB) hp h7;have hf:=Wla digitB hp;have e:((p:Int)+(runN digitB (s.drop p):Nat)).toNat-(p:Int).toNat=runN digitB (s.drop p):=by omega
 refine Zj (Zm (Zq O (Vh O (Yl Wda Vi (aqc O (aqc O aq0)) O) (Qce base b s p ts cs _ ((hs.grow g).scn k1 k2 k3 k4) _ digitB Yjc Yud) (fun w145 g145=>?_))));have g:=g.trans g145;refine Yo O (Ze (kq (Zj (Zj (Xe [3,3,3,3,3,3,3,3,3,3,0,3,3,3,3,3,0,3,3,3,3,3,3,0,3,3,3,0,3,3,3,1,3,3] [true,true,true,true,true,true,true,true,true,true,true,true,true,true,true,true,true,true,true,true,true,true,true,true,true,true,true,true,true,true,true,true,true,true] [0,1,3,7,15,31,63,127,255,511,1023,127,4095,127,8319,24703,57471,123007,262143,524287,1048575,2097151,4194303,8388607,1048575,17825791,51380223,118489087,1048575,521142271,1073741823,2147483647,4294967295,8589934591] mix (by kernel_rfl) ?_)))));have g:=gdr g;refine Zq O (Zwa O O (Zq O (Zi O O O (fun _=>Zl (Zc O)) (Zi O O O (fun _=>Zld (Zk O id) Xg) (Zo O (fun _=>Zz (Zc O) (Zk O id)) (Zq O (Zi O O O (fun _=>Zl (Zc O)) (Zi O O O (fun _=>Jo (Zk O id)) (Zi O O O (fun _=>Zn Xc (Zk O id)) (Ye O O O (Zt Yd (Zk O id) (fun _=>by first|exact (hs.grow g).B.at_ O)) (Zi O O O (fun _=>Zl (Zc O)) (Zi O O O (fun _=>Jia (Zk O id) (Zk O id) (fun _=>by omega)) (Zi O O O (fun _=>Zl (Zc O)) (Zi O O O (fun _=>Jo (Zk O id)) (Zi O O O (fun _=>Zn Vq (Zk O id)) (?_))))))))))))))))
 refine Ye O O O (Zt Yg (Zk O id) (fun _=>by first|exact (hs.grow g).B.at_ O)) (Zi O O O (fun _=>Yaa Yu (Zk O id)) (Zi O O O (fun _=>Xvc (Zk O id) (Zk O id)) (Zi O O O (fun _=>Zl (Zk O id)) (Zi O O O (fun _=>Zl (Zc O)) (Zi O O O (fun _=>Jo (Zk O id)) (Zi O O O (fun _=>Zn Vq (Zk O id)) (Ye O O O (Zt Yg (Zk O id) (fun _=>by first|exact (hs.grow g).B.at_ O)) (Zi O O O (fun _=>Zl (Zc O)) (Zi O O O (fun _=>Jo (Zk O id)) (Zi O O O (fun _=>Zn Xc (Zk O id)) (Ye O O O (Zt Yd (Zk O id) (fun _=>by first|exact (hs.grow g).B.at_ O)) (Zi O O O (fun _=>Zl (Zc O)) (Zi O O O (fun _=>Jia (Zk O id) (Zk O id) (fun _=>by omega)) (Zi O O O (fun _=>Jj Yu (Zk O id) (Zk O id) (fun hc=>by have:=of_decide_eq_true hc.2;omega)) (Xy O O O (fun _=>(Yl Qmb Vi (Yr (Zk O id) (Xl)) O)) (fun hc=>Ujc _ _) (fun w177 g177=>?_))))))))))))))));have g:=g.trans g177;refine Zi O O O (fun _=>Zz (Zk O id) (Zk O id)) (Zo O (fun _=>Wk (Zc O) (Zk O id)) (Vc [(0,_,_),(2,_,_),(7,_,_),(179,_,_)] (Za O (Za O (Za O (Za O (Zp _))))) (Ze (kq (Wm O (fun h8=>?_) (fun h8=>?_))))));replace h8:badD s p (runN digitB (s.drop p))=true:=h8;have hN:nextF s p ts cs=(p,ts,cs,4):=by unfold nextF;rw [h1,h2,h3,h4,h7,h8];rfl
 have hs':=(hs.grow g).scn k1 k2 k3 k4;have hb':=Xwa g hs.base_le;refine Zj (Zm (Yo O (Ze (kq (Xd (Vy O O ?_))))));rw [hN];exact ⟨rfl,hs',hb'⟩;replace h8:badD s p (runN digitB (s.drop p))=false:=h8;obtain ⟨ev,he1,he2⟩:=hL.err;have hdl:((s.drop p).take (runN digitB (s.drop p))).length=runN digitB (s.drop p):=by rw [List.length_take,List.length_drop];omega
 refine Ya (kq (Zj (Zj (Xe [3,3,3,0,3,3,3,0,3,3,3,0,3,3,3,1,3,3,3,3,3] [true,true,true,true,true,true,true,true,true,true,true,true,true,true,true,true,true,true,true,true,true] [0,1,3,7,0,16,48,112,0,256,768,1792,0,7936,16383,32767,65535,131071,131071,262143,1048575] mix (by kernel_rfl) ?_))));have g:=gdr g;refine Zq O (Ql O (Yj Vq O (Yq Yg O (by first|exact (hs.grow g).B.at_ O) (Zq O (Ql O (Yj Xc O (Yq Yd O (by first|exact (hs.grow g).B.at_ O) (Zq O (Ql O (Yj Xc O (Yq Yd O (by first|exact (hs.grow g).B.at_ O) (Zq O (Qqa O O (by omega) (Zo O (fun _=>Xxb Yu (Zc O) (Zc O) (Zc O) (fun _=>by omega)) (Xva O (Yl Zxc Vi (aqc O (aqc O (aqc O aq0))) O) (Ukf _ (by rw [e];exact Qwb s p) (by rw [e];intro h0;have h0:=congrArg List.length h0;rw [show (List.take (runN digitB (s.drop p)) (List.drop (p:Int).toNat s)).length=runN digitB (s.drop p) from hdl] at h0;simp at h0;omega) (by rw [e];show ((s.drop p).take (runN digitB (s.drop p))).length≤20000;omega) _ ev (Jqb g he1) he2) ?_)))))))))))))));rintro v196 w196 ⟨⟨x,er,rfl,her,hnil⟩,g196⟩;refine ⟨fun _=>g196,?_⟩;have g:=g.trans g196;replace hnil:nilV er=decide (valN 0 ((s.drop p).take (runN digitB (s.drop p)))<9223372036854775808):=by rw [e] at hnil;exact hnil
 refine Zq O (Vvc O O (Vvc O O (Yo O (Yo O (Ze (kq (Zj (Zm (Zq O (Zo O (fun _=>Jeg Xqe (Zc O) her) (Ze (kq (Wm O (fun h9=>?_) (fun h9=>?_))))))))))))));have h9:decide (valN 0 ((s.drop p).take (runN digitB (s.drop p)))<9223372036854775808)=false:=by replace h9:(!nilV er)=true:=h9;rw [hnil] at h9;simpa using h9
 have hN:nextF s p ts cs=(p,ts,cs,4):=by unfold nextF;rw [h1,h2,h3,h4,h7,h8,h9];rfl
 have hs':=(hs.grow g).scn k1 k2 k3 k4;have hb':=Xwa g hs.base_le;refine Zj (Zm (Yo O (Ze (kq (Xd (Vy O O ?_))))));rw [hN];exact ⟨rfl,hs',hb'⟩;have h9:decide (valN 0 ((s.drop p).take (runN digitB (s.drop p)))<9223372036854775808)=true:=by replace h9:(!nilV er)=false:=h9;rw [hnil] at h9;simpa using h9
 have hN:nextF s p ts cs=(p+runN digitB (s.drop p),ts++[⟨2,(s.drop p).take (runN digitB (s.drop p)),p⟩],cs,0):=by unfold nextF;rw [h1,h2,h3,h4,h7,h8,h9];rfl
 refine Ya (kq (Zm (Zq O (Zq O (CL (Zce base b s p ts cs _ _ _ ((hs.grow g).scn k1 k2 k3 k4) hn hf) ?_)))));rintro v203 w203 ⟨rfl,hs',hb'⟩;refine ⟨nw1,?_⟩;have hb':=(Xwa g hs.base_le).trans hb';refine Ze (kq (Zj (Zm (Yo O (Ze (kq (Xd (Vy O O ?_))))))));rw [hN];exact ⟨rfl,hs',hb'⟩;replace h7:digitB (cAt s p)=false:=h7;refine Zj (Zj (Zm (Vf Ypc O O ((hL.grow g).ops) (Zq O (Ze (kq (Yv (Wpa (fun (i:Nat) u=>i≤27∧(∀ j<i,preB (opsL.getD j []) (s.drop p)=false)∧G w u) (fun i=>[(0,True,.pointer (some ⟨b,0,none⟩)),(21,True,.agg (opsL.map Str).toArray),(22,True,.int .i64 i)]) (fun i=>27-i) 0 ⟨by omega,by intro j hj;omega,g⟩ (Za O (Za O (Za O (Zp _)))) ?_))))))));rintro i u ⟨hi,hpre,g⟩;refine Zj (Zm (Xka O O (Ze (kq (Zj (Wm O (fun h10=>?_) (fun h10=>?_)))))));simp only [decide_eq_true_eq] at h10;have hi27:i<27:=by omega
 refine Ya (kq (Zj (Yv (Zj (Zm (Zo O (fun _=>Zbf Jyd (Zc O) (Zc O) (fun _=>by omega) (fun _=>Wag hi27)) (Yo O (Ze (kq (Zj (Xe [3,3,3,0,3,3,3,0,3,3,1] [true,true,true,true,true,true,true,true,true,true,true] [0,1,3,7,0,16,48,112,255,0,1023] mix (by kernel_rfl) ?_)))))))))));have g:=gdr g;refine Zq O (Ql O (Yj Vq O (Yq Yg O (by first|exact (hs.grow g).B.at_ O) (Zq O (Ql O (Yj Xc O (Yq Yd O (by first|exact (hs.grow g).B.at_ O) (Zo O (fun _=>Ulb Yu (Zc O) (Zc O) (fun _=>by omega)) (Zq O (Vh O (Yl Qba Vi (aqc O (aqc O aq0)) O) (Yqc _ _ _) (fun w35 g35=>?_)))))))))));have g:=g.trans g35;refine Ze (kq (Wm O (fun h11=>?_) (fun h11=>?_)));replace h11:preB (opsL.getD i []) (s.drop p)=true:=h11;have h0:=Qde hi27 hpre h11;have hn:=Ulf i hi27;have hf:p+(opsL.getD i []).length≤s.length:=by have:=(Umf h11).1;rw [List.length_drop] at this;omega
 have hN:nextF s p ts cs=(p+(opsL.getD i []).length,ts++[⟨4,(s.drop p).take (opsL.getD i []).length,p⟩],cs,0):=by
  unfold nextF;rw [h1,h2,h3,h4,h7,h0,show Nat.beq (opsL.getD i []).length 0=false by rw [Bool.eq_false_iff];intro h;have:=Nat.eq_of_beq_eq_true h;omega];rfl
 refine Zj (Zm (Zq O (Zq O (Zo O (fun _=>Yaa Yu (Zc O)) (CL (Zce base b s p ts cs _ _ _ ((hs.grow g).scn k1 k2 k3 k4) hn hf) ?_)))));rintro v39 w39 ⟨rfl,hs',hb'⟩;refine ⟨nw1,?_⟩;have hb':=(Xwa g hs.base_le).trans hb';refine Ze (kq (Zj (Zm (Yo O (Ze (kq (Xd (Vy O O ?_))))))));rw [hN];exact ⟨rfl,hs',hb'⟩;refine Ya (kq (Zm (Qqa O O (by omega) (Zq O (Vc [(0,_,_),(21,_,_),(22,_,_)] (Za O (Za O (Za O (Zp _)))) (Ze (fun a ha=>?_)))))))
 exact ⟨i+1,ha,⟨by omega,by
  intro j hj;by_cases e:j=i;rw [e];exact h11;exact hpre j (by omega),g⟩,by omega⟩
 simp only [decide_eq_false_iff_not] at h10;have hi27:i=27:=by omega
 subst hi27;have h0:=Qee hpre;have hN:nextF s p ts cs=(p,ts,cs,4):=by unfold nextF;rw [h1,h2,h3,h4,h7,h0];rfl
 have hs':=(hs.grow g).scn k1 k2 k3 k4;have hb':=Xwa g hs.base_le;refine Qs O (kq (Zj (Zm (Yo O (Ze (kq (Xd (Vy O O ?_))))))));rw [hN];exact ⟨rfl,hs',hb'⟩
def goF(s:List UInt8):Nat→Nat→List Tok→List Tok→Nat×List Tok×List Tok×Int
 | 0,p,ts,cs=>(p,ts,cs,0)
 | f+1,p,ts,cs=>bif decide (p<s.length) then bif decide ((nextF s p ts cs).2.2.2=0) then goF s f (nextF s p ts cs).1 (nextF s p ts cs).2.1 (nextF s p ts cs).2.2.1 else nextF s p ts cs else (p,ts,cs,0)
def allF(s:List UInt8):Nat×List Tok×List Tok×Int:=bif decide ((20000:Int)<s.length) then (0,[],[],3) else goF s s.length 0 [] []
theorem Ywd{s:List UInt8}{p:Nat}{ts cs:List Tok}(h:p<s.length)(he:(nextF s p ts cs).2.2.2=0):p<(nextF s p ts cs).1:=by
 unfold nextF at he ⊢;cases h1:decide (cAt s p=10);cases h2:((decide (cAt s p=32) || decide (cAt s p=9)) || decide (cAt s p=13));cases h3:preB [47,47] (s.drop p);cases h4:letterB (cAt s p);cases h7:digitB (cAt s p);cases h8:Nat.beq (Xib (s.drop p)) 0;simp only [cond_true,cond_false];have:Xib (s.drop p)≠0:=by intro h0;rw [h0] at h8;cases h8
 omega;rw [h1,h2,h3,h4,h7,h8] at he;simp at he;have:=Vva (q:=digitB) h h7;rw [h1,h2,h3,h4,h7] at he;cases h8:badD s p (runN digitB (s.drop p));rw [h8] at he;cases h9:decide (valN 0 ((s.drop p).take (runN digitB (s.drop p)))<9223372036854775808);rw [h9] at he;simp at he;simp only [cond_true,cond_false];omega;rw [h8] at he;simp at he;have:=Vva (q:=isAlnum) h (by rw [isAlnum,h4];rfl);rw [h1,h2,h3,h4] at he;cases h5:decide ((32:Int)<runN isAlnum (s.drop p));simp only [cond_true,cond_false];omega;rw [h5] at he;simp at he;have:=Vva (q:=isNotLf) h (by rw [isNotLf,h1];rfl);simp only [cond_true,cond_false];omega;simp only [cond_true,cond_false];omega;simp only [cond_true,cond_false];omega
theorem Jig(s:List UInt8)(w:World)(hL:Laid w)(hb3:4≤w.heap.size) :
 Ret PP Xje #[Str s] w fun v w'=>∃ b ta tc ca cc,v = .tuple #[.pointer (some ⟨b,0,none⟩),.int .i64 (allF s).2.2.2]∧SA w.heap.size b s (allF s).1 (allF s).2.1 (allF s).2.2.1 ta tc ca cc w'∧G w w':=by
 have g:=G.refl w;refine WK 27 [0] Vkd ?_;refine BM fun b8 w8 _ l8 g E=>?_;refine IF (fun h1=>?_) fun h1=>?_;have hN:allF s=(0,[],[],3):=by unfold allF;rw [h1];rfl
 refine RTN ?_;rw [hN];exact ⟨b8,none,0,none,0,rfl,⟨E.g0,l8,Zga _ _ _ _,Zga _ _ _ _,(by intro h;cases h),(by intro h;cases h),(by intro k h;cases h)⟩,g⟩;have hN:allF s=goF s s.length 0 [] []:=by unfold allF;rw [h1];rfl
 simp only [decide_eq_false_iff_not] at h1;refine Ya (kq (Zj (Yv (?_))))
 refine Wpa (fun (x:Nat×List Tok×List Tok×Nat) u=>Scn w.heap.size b8 s x.1 x.2.1 x.2.2.1 u∧s.length-x.1≤x.2.2.2∧goF s x.2.2.2 x.1 x.2.1 x.2.2.1=goF s s.length 0 [] []∧G w u) (fun _=>[(0,True,Str s),(4,True,.pointer (some ⟨b8,0,none⟩))]) (fun x=>s.length-x.1) (0,[],[],s.length)
  ⟨(show SA w.heap.size b8 s 0 [] [] none 0 none 0 w8 from ⟨E.g0,l8,Zga _ _ _ _,Zga _ _ _ _,(by intro h;cases h),(by intro h;cases h),(by intro k h;cases h)⟩).scn (Nat.zero_le _) (Nat.zero_le _) (Nat.zero_le _) (by omega),Nat.sub_le _ _,rfl,g⟩ (Za rfl (Za rfl (Zp _))) ?_
 rintro ⟨p,ts,cs,f⟩ u ⟨hs,hf,he,g⟩;simp only at hs hf he;obtain ⟨ta,tc,ca,cc,hA,k1,k2,k3,k4⟩:=hs.sa;refine Zj (Zj (Zm (Zq O (Ql O (Yj Xc O (Yq Yd O (hA.B.at_ O) (Zq O (Zo O (fun _=>Yaa Yu (Zc O)) (Xka O O (Ze (kq (Wm O (fun h2=>?_) (fun h2=>?_)))))))))))));replace h2:p<s.length:=by simp only [decide_eq_true_eq] at h2;omega
 obtain ⟨f',rfl⟩:∃ f',f=f'+1:=⟨f-1,by omega⟩;rw [goF,Ywh h2,cond_true] at he;refine AU ?_;refine CL (Wbg _ _ hb3 s p ts cs _ (hL.grow g) hs h2) ?_;rintro v21 w21 ⟨rfl,hs',hb'⟩;refine ⟨nw1,?_⟩;have g:G w w21:=Below.trans g hb';refine IF (fun h3=>?_) fun h3=>?_;replace h3:decide ((nextF s p ts cs).2.2.2=0)=false:=by simpa using h3
 rw [h3,cond_false] at he;refine RTN ?_;rw [hN,← he];obtain ⟨ta,tc,ca,cc,hA,_⟩:=hs'.sa;exact ⟨b8,ta,tc,ca,cc,rfl,hA,g⟩;replace h3:(nextF s p ts cs).2.2.2=0:=by simpa using h3
 have hlt:=Ywd h2 h3;rw [Ywh h3,cond_true] at he;refine KC [0,4] ?_;refine Ya (fun a ha=>?_);exact ⟨(_,_,_,f'),ha,⟨hs',by show s.length-(nextF s p ts cs).1≤f';omega,he,g⟩,by show s.length-(nextF s p ts cs).1<s.length-p;omega⟩;have hp:p=s.length:=by simp only [decide_eq_false_iff_not] at h2;omega
 have he:(p,ts,cs,(0:Int))=goF s s.length 0 [] []:=by
  rw [← he]
  cases f with
  | zero=>rfl
  | succ f'=>rw [goF,Yvh (by omega:¬ p<s.length)];rfl
 refine RTN ?_;rw [hN,← he];exact ⟨b8,ta,tc,ca,cc,rfl,hA,g⟩
def scanF(s:List UInt8):List Tok×Nat×Int:=bif !decide ((allF s).2.2.2=0) then ([],(allF s).1,(allF s).2.2.2) else ((allF s).2.1,0,0)
def Toks(base:Nat)(l:List Tok)(v:Value)(w:World):Prop:=w.ownsRow base Vx 3 v l.length (toksCells l)
theorem Wcg(s:List UInt8)(w:World)(hL:Laid w)(hb3:4≤w.heap.size) :
 Ret PP Jid #[Str s] w fun v w'=>∃ l,v = .tuple #[l,.int .i64 (scanF s).2.1,.int .i64 (scanF s).2.2]∧Toks w.heap.size (scanF s).1 l w'∧G w w':=by
 have g:=G.refl w;refine WK 23 [0] Ygd ?_;refine AU ?_;refine CL (Jig s _ (hL.grow g) hb3) ?_;rintro v9 w9 ⟨b,ta,tc,ca,cc,rfl,hA,g9⟩;refine ⟨fun _=>g9,?_⟩;have g:=g.trans g9;refine IF (fun h1=>?_) fun h1=>?_;(try simp only [bsimp] at h1);refine Zj (Xe [3,3,3,0,3,3,3,3] [true,true,true,true,true,true,true,true] [0,1,3,7,0,0,47,127] mix (by kernel_rfl) ?_);have g:=gdr g;have gh:=G.drew w9;refine Zq O (Ql O (Yj Xc O (Yq Yd O (by first|exact (hA.grow gh).B.at_ O) (Zq O (Yo O (Yo O (Yo O (Ze (kq (Xd (Xzb (ts:=[2,3,4]) (vs:=[_,_,_]) O O O ?_)))))))))));refine ⟨.slice none 0 0,?_,?_,g⟩;rw [scanF,show (!decide ((allF s).2.2.2=0))=true from h1];rfl;rw [scanF,show (!decide ((allF s).2.2.2=0))=true from h1];exact Zga _ _ _ _;have gh:=G.refl w9;refine Ya (kq (Zj (Zm (Zq O (Ql O (Yj Jz O (Yq Vl O (by first|exact (hA.grow gh).B.at_ O) (Yo O (Yo O (Yo O (Ze (kq (Xd (Xzb (ts:=[2,3,4]) (vs:=[_,_,_]) O O O ?_))))))))))))));refine ⟨.slice ta (allF s).2.1.length tc,?_,?_,g⟩;rw [scanF,show (!decide ((allF s).2.2.2=0))=false from h1];rfl;rw [scanF,show (!decide ((allF s).2.2.2=0))=false from h1];exact hA.ht
structure Ty where
  kind:Int
  name:List UInt8
inductive Nd where
  | mk (kind:Int) (text:List UInt8) (num pos:Int) (kids:List Nd) (ty:Ty) (ref up:Int)
namespace Nd
def kind:Nd→Int | .mk k _ _ _ _ _ _ _=>k
def text:Nd→List UInt8 | .mk _ x _ _ _ _ _ _=>x
def num:Nd→Int | .mk _ _ n _ _ _ _ _=>n
def pos:Nd→Int | .mk _ _ _ a _ _ _ _=>a
def kids:Nd→List Nd | .mk _ _ _ _ ks _ _ _=>ks
def ty:Nd→Ty | .mk _ _ _ _ _ y _ _=>y
def ref:Nd→Int | .mk _ _ _ _ _ _ r _=>r
def up:Nd→Int | .mk _ _ _ _ _ _ _ u=>u
end Nd
def ty0:Ty:=⟨0,[]⟩
def nd0:Nd:=.mk 0 [] 0 0 [] ty0 0 0
def tyCells(y:Ty):List Value:=[.int .i64 y.kind,Str y.name]
def ndCells(t:Nd)(v:Value):List Value:=[.int .i64 t.kind,Str t.text,.int .i64 t.num,.int .i64 t.pos,v,.int .i64 t.ty.kind,Str t.ty.name,.int .i64 t.ref,.int .i64 t.up]
@[reducible] def tyV(y:Ty):Value:=.agg (tyCells y).toArray
@[reducible] def ndV(t:Nd)(v:Value):Value:=.agg (ndCells t v).toArray
theorem Yxd(t:Nd)(v:Value):(ndCells t v).length=9:=rfl
mutual
theorem Nd.ind_n{C:Nd→Prop}(h:∀ t,(∀ k∈t.kids,C k)→C t):∀ t,C t
 | .mk k x n a ks y r u=>h _ (Nd.ind_l h ks)
theorem Nd.ind_l{C:Nd→Prop}(h:∀ t,(∀ k∈t.kids,C k)→C t):∀ (l:List Nd),∀ k∈l,C k
 | []=>fun _ hk=>by cases hk
 | t::ts=>List.forall_mem_cons.2 ⟨Nd.ind_n h t,Nd.ind_l h ts⟩
end
theorem Nd.ind{C:Nd→Prop}(h:∀ t,(∀ k∈t.kids,C k)→C t)(t:Nd):C t:=Nd.ind_n h t
section
variable {α:Type}
mutual
def para(f:Nd→List α→α):Nd→α
 | .mk k x n a ks y r u=>f (.mk k x n a ks y r u) (paraL f ks)
def paraL(f:Nd→List α→α):List Nd→List α
 | []=>[]
 | t::ts=>para f t::paraL f ts
end
theorem Unf(f:Nd→List α→α)(l:List Nd):paraL f l=l.map (para f):=by
 induction l with
 | nil=>rfl
 | cons t ts ih=>rw [paraL,ih];rfl
theorem Yca(f:Nd→List α→α)(t:Nd):para f t=f t (t.kids.map (para f)):=by
 cases t with
 | mk k x n a ks y r u=>rw [para,Unf];rfl
end
mutual
def KRow(w:World)(D:Nat→Prop):List Nd→List Value→Prop
 | [],xs=>xs=[]
 | t::ts,xs=>∃ v r,xs=ndCells t v++r∧KNd w D t v∧KRow w D ts r
def KNd(w:World)(D:Nat→Prop):Nd→Value→Prop
 | .mk _ _ _ _ ks _ _ _,v=>∃ p c,v = .slice p ks.length c∧ks.length≤c∧(0<ks.length→∃ b o,p=some ⟨b,o,none⟩∧D b∧∃ xs,RowAt w b o xs∧KRow w D ks xs)
end
def Kd(w:World)(D:Nat→Prop)(ks:List Nd)(v:Value):Prop :=
 ∃ p c,v = .slice p ks.length c∧ks.length≤c∧(0<ks.length→∃ b o,p=some ⟨b,o,none⟩∧D b∧∃ xs,RowAt w b o xs∧KRow w D ks xs)
theorem Yyd(w:World)(D:Nat→Prop)(t:Nd)(v:Value):KNd w D t v=Kd w D t.kids v:=by
 cases t;rw [KNd];rfl
theorem Yzd{w:World}{D:Nat→Prop}:KRow w D [] []:=rfl
theorem Xh{w:World}{D:Nat→Prop}{t:Nd}{ts:List Nd}{v:Value}{r:List Value}(h:Kd w D t.kids v)(k:KRow w D ts r):KRow w D (t::ts) (ndCells t v++r) :=
 ⟨v,r,rfl,(Yyd ..).symm▸h,k⟩
theorem Zqb{w:World}{D:Nat→Prop}:∀ {ks:List Nd} {xs:List Value},KRow w D ks xs→xs.length=ks.length*9
 | [],xs,h=>by rw [show xs=[] from h];rfl
 | t::ts,xs,h=>by
  obtain ⟨v,r,rfl,_,h⟩:=h;rw [List.length_append,Yxd,Zqb h,List.length_cons];omega
theorem Zrb{w:World}{D:Nat→Prop}:∀ {ks ls:List Nd} {xs ys:List Value},KRow w D ks xs→KRow w D ls ys→KRow w D (ks++ls) (xs++ys)
 | [],ls,xs,ys,h,k=>by rw [show xs=[] from h];exact k
 | t::ts,ls,xs,ys,h,k=>by
  obtain ⟨v,r,rfl,h1,h⟩:=h;exact ⟨v,r++ys,by rw [List.append_assoc],h1,Zrb h k⟩
theorem Yc{w:World}{D:Nat→Prop}{t:Nd}{v:Value}(h:Kd w D t.kids v):KRow w D [t] (ndCells t v):=by
 have:=Xh h (Yzd (w:=w) (D:=D));rwa [List.append_nil] at this
theorem Xxe{w:World}{D:Nat→Prop}:∀ {ks:List Nd} {xs:List Value} (_:KRow w D ks xs) {i:Nat} (hi:i<ks.length),∃ v,(xs.drop (i*9)).take 9=ndCells ks[i] v∧Kd w D ks[i].kids v
 | [],xs,h,i,hi=>by cases hi
 | t::ts,xs,h,i,hi=>by
  obtain ⟨v,r,rfl,h1,h⟩:=h
  cases i with
  | zero=>exact ⟨v,by simp [ndCells],Yyd w D t v▸h1⟩
  | succ i =>
   have hi':i<ts.length:=by simpa using hi
   obtain ⟨v',e,k⟩:=Xxe h hi';refine ⟨v',?_,k⟩
   have e9:(ndCells t v++r).drop ((i+1)*9)=r.drop (i*9):=by
    rw [show (i+1)*9=9+i*9 by omega,← List.drop_drop];rfl
   rw [e9];exact e
mutual
theorem Yua{w w':World}{D D':Nat→Prop}(hD:∀ b,D b→b<w.heap.size→D' b)(hf:∀ b,D b→b<w.heap.size→w'.heap[b]? = w.heap[b]?):∀ (ks:List Nd) (xs:List Value),KRow w D ks xs→KRow w' D' ks xs
 | [],xs,h=>h
 | t::ts,xs,h=>by
  obtain ⟨v,r,rfl,h1,h⟩:=h;exact ⟨v,r,rfl,Udd hD hf t v h1,Yua hD hf ts r h⟩
theorem Udd{w w':World}{D D':Nat→Prop}(hD:∀ b,D b→b<w.heap.size→D' b)(hf:∀ b,D b→b<w.heap.size→w'.heap[b]? = w.heap[b]?):∀ (t:Nd) (v:Value),KNd w D t v→KNd w' D' t v
 | .mk k x n a ks y r u,v,h=>by
  obtain ⟨p,c,rfl,hc,h⟩:=h;refine ⟨p,c,rfl,hc,fun h0=>?_⟩;obtain ⟨b,o,rfl,hb,xs,hR,hX⟩:=h h0;have hl:xs.length=ks.length*9:=Zqb hX;have h0':∃ u,xs[0]? = some u:=⟨xs[0]'(by omega),by simp⟩;obtain ⟨u0,hu0⟩:=h0';have hlt:b<w.heap.size:=World.block_lt_of_cell? w _ (hR 0 u0 hu0);have hb':=hf b hb hlt;refine ⟨b,o,rfl,hD b hb hlt,xs,fun j u hj=>?_,Yua hD hf ks xs hX⟩;have:=hR j u hj;unfold World.cell? at this ⊢;simp only [hb'];exact this
end
theorem Zma{w w':World}{D D':Nat→Prop}{ks:List Nd}{v:Value}(h:Kd w D ks v)(hD:∀ b,D b→b<w.heap.size→D' b)(hf:∀ b,D b→b<w.heap.size→w'.heap[b]? = w.heap[b]?):Kd w' D' ks v:=by
 have:=Udd hD hf (.mk 0 [] 0 0 ks ty0 0 0) v ((Yyd w D _ v).symm▸h);rw [Yyd] at this;exact this
theorem Kd.mono{w:World}{D D':Nat→Prop}{ks:List Nd}{v:Value}(h:Kd w D ks v)(hD:∀ b,D b→b<w.heap.size→D' b):Kd w D' ks v:=Zma h hD fun _ _ _=>rfl
theorem KRow.mono{w:World}{D D':Nat→Prop}{ks:List Nd}{xs:List Value}(h:KRow w D ks xs)(hD:∀ b,D b→b<w.heap.size→D' b):KRow w D' ks xs:=Yua hD (fun _ _ _=>rfl) _ _ h
theorem Kd.grow{w w':World}{D:Nat→Prop}{ks:List Nd}{v:Value}(h:Kd w D ks v)(g:G w w'):Kd w' D ks v:=Zma h (fun _ h _=>h) fun _ _ hb=>g.block hb
theorem KRow.grow{w w':World}{D:Nat→Prop}{ks:List Nd}{xs:List Value}(h:KRow w D ks xs)(g:G w w'):KRow w' D ks xs:=Yua (fun _ h _=>h) (fun _ _ hb=>g.block hb) _ _ h
theorem Kd.keep{w w':World}{D:Nat→Prop}{ks:List Nd}{v:Value}{row:Option Nat}(h:Kd w D ks v)(hg:w.grownBy w' row)(hne:∀ b,D b→b<w.heap.size→some b≠row):Kd w' D ks v:=Zma h (fun _ h _=>h) fun b hb hlt=>hg.block b hlt (hne b hb hlt)
theorem KRow.keep{w w':World}{D:Nat→Prop}{ks:List Nd}{xs:List Value}{row:Option Nat}(h:KRow w D ks xs)(hg:w.grownBy w' row)(hne:∀ b,D b→b<w.heap.size→some b≠row):KRow w' D ks xs:=Yua (fun _ h _=>h) (fun b hb hlt=>hg.block b hlt (hne b hb hlt)) _ _ h
theorem Kd.lt{w:World}{D:Nat→Prop}{ks:List Nd}{v:Value}(h:Kd w D ks v):Kd w (fun b=>D b∧b<w.heap.size) ks v:=Zma h (fun _ h hl=>⟨h,hl⟩) fun _ _ _=>rfl
theorem KRow.lt{w:World}{D:Nat→Prop}{ks:List Nd}{xs:List Value}(h:KRow w D ks xs):KRow w (fun b=>D b∧b<w.heap.size) ks xs:=Yua (fun _ h hl=>⟨h,hl⟩) (fun _ _ _=>rfl) _ _ h
theorem Kd.old{w w':World}{D:Nat→Prop}{ks:List Nd}{v:Value}(h:Kd w D ks v)(g:G w w'):Kd w' (fun b=>D b∧b<w.heap.size) ks v:=h.lt.grow g
theorem Jya(w:World)(D:Nat→Prop):Kd w D [] (.slice none 0 0):=⟨none,0,rfl,Nat.le_refl _,fun h=>absurd h (Nat.lt_irrefl 0)⟩
theorem Uof{w:World}{base:Nat}{e:TypeId}{v:Value}{m:Nat}{xs:List Value}{D:Nat→Prop}{ks:List Nd}(h:w.ownsRow base e 9 v m xs)(hm:m=ks.length)(k:KRow w D ks xs)(hD:∀ b,v.ownBlock=some b→D b):Kd w D ks v:=by
 subst hm;obtain ⟨a,c,rfl,hc⟩:=Vja h;refine ⟨a,c,rfl,hc,fun h0=>?_⟩;obtain ⟨b,c',hv,_,hR,_⟩:=Uta h h0;injection hv with hv _ _;subst hv;exact ⟨b,0,rfl,hD b rfl,xs,hR,k⟩
theorem Xk{w:World}{D:Nat→Prop}{ks:List Nd}{b o c:Nat}{xs:List Value}(hb:D b)(hR:RowAt w b o xs)(hX:KRow w D ks xs)(hc:ks.length≤c):Kd w D ks (.slice (some ⟨b,o,none⟩) ks.length c):=⟨_,c,rfl,hc,fun _=>⟨b,o,rfl,hb,xs,hR,hX⟩⟩
theorem Xjb{w:World}{D:Nat→Prop}{ks:List Nd}{b o:Nat}{xs:List Value}(hR:RowAt w b o xs)(hX:KRow w D ks xs){i:Nat}(hi:i<ks.length):∃ p c,RowAt w b (o+i*9) (ndCells ks[i] (.slice p ks[i].kids.length c))∧Kd w D ks[i].kids (.slice p ks[i].kids.length c):=by
 obtain ⟨v,e,k⟩:=Xxe hX hi;have:=hR.part (i*9) 9;rw [e] at this;obtain ⟨p,c,rfl,k1⟩:=k;exact ⟨p,c,this,p,c,rfl,k1⟩
/-! counting -/
def count(t:Nd):Nat:=para (fun _ l=>1+l.sum) t
theorem Uw(t:Nd):count t=1+(t.kids.map count).sum:=Yca _ t
theorem Qdc(l:List Nat)(i:Nat):(l.take i).sum≤l.sum:=by
 conv=>rhs;rw [← List.take_append_drop i l,List.sum_append]
 omega
theorem Zsa{t:Nd}{i:Nat}(h:i<t.kids.length):((t.kids.take i).map count).sum+count t.kids[i]+1≤count t:=by
 rw [Uw t];have:=Qdc (t.kids.map count) (i+1);rw [← List.map_take,List.take_add_one,List.getElem?_eq_getElem h] at this;simp only [Option.toList_some,List.map_append,List.map_cons,List.map_nil,List.sum_append,List.sum_cons,List.sum_nil] at this;omega
theorem Un(t:Nd):1≤count t:=by rw [Uw];omega
theorem Ysc:∀ (l:List Nd),l.length≤(l.map count).sum
 | []=>Nat.le_refl _
 | t::ts=>by have:=Ysc ts;have:=Un t;simp;omega
theorem Up(t:Nd):t.kids.length+1≤count t:=by
 have:=Ysc t.kids;rw [Uw];omega
theorem Ji{t k:Nd}(h:k∈t.kids):count k+1≤count t:=by
 obtain ⟨i,hi,rfl⟩:=List.getElem_of_mem h;have:=Zsa hi;omega
theorem Ytc{α β:Type}(f:α→β)(l:List α)(i:Nat)(h:i<l.length):(l.take (i+1)).map f=(l.take i).map f++[f l[i]]:=by
 rw [List.take_add_one,List.getElem?_eq_getElem h,List.map_append];rfl
theorem Zgf(c:Int)(w:World):Ret PP Ygc #[.int .u8 c] w fun v w'=>v = .bool (letterB c)∧G w w':=by
 have g:=G.refl w;refine WK 21 [0] Vgb ?_;refine RTN ?_;exact ⟨rfl,g⟩
theorem Wdg(c:Int)(w:World):Ret PP Wic #[.int .u8 c] w fun v w'=>v = .bool (digitB c)∧G w w':=by
 have g:=G.refl w;refine WK 9 [0] Qdb ?_;refine RTN ?_;exact ⟨rfl,g⟩
def alB(c:UInt8):Bool:=letterB c.toNat || digitB c.toNat
def nameB(s:List UInt8):Bool:=!(((decide (s=[]) || decide ((32:Int)<s.length)) || !letterB (cAt s 0)) || inB kws s)&&(s.drop 1).all alB
theorem Upf{s:List UInt8}{i:Nat}(h:i<s.length):cAt s i=(s[i].toNat:Int):=by simp [cAt,List.getD_eq_getElem?_getD,List.getElem?_eq_getElem h]
theorem Vwa(s:List UInt8)(w:World):Ret PP Xee #[Str s] w fun v w'=>v = .bool (nameB s)∧G w w':=by
   have g := G.refl w
   refine WK 39 [0] Vdd ?_
   refine AU ?_
   refine Zi O O O (fun _ => Jj Yu (Zk O id) Xg (fun hc => by
 have h1:=hc.2;simp only [Bool.or_eq_false_iff,decide_eq_false_iff_not] at h1
 have:s.length≠0:=fun h=>h1.1 (List.length_eq_zero_iff.1 h)
 omega)) (Xy rfl rfl rfl (fun _=>(Yl Wfa Vi (Yr (Zk rfl id) (Xl)) rfl)) (fun hc=>Zgf _ _) (fun w14 g14=>?_))
   have g:=g.trans g14
   refine AU ?_
   refine CG (fun hc=>Qcc _ _) (fun w19 g19=>?_)
   have g:=g.trans g19
   refine IF (fun h1=>?_) fun h1=>?_
   · (try simp only [bsimp] at h1)
     refine RTN ?_
     refine ⟨Yxh ?_,g⟩
     unfold nameB;rw [show (((decide (s=[]) || decide ((32:Int)<s.length)) || !letterB (cAt s 0)) || inB kws s)=true from h1];rfl
   have hn:nameB s=(s.drop 1).all alB:=by unfold nameB;rw [show (((decide (s=[]) || decide ((32:Int)<s.length)) || !letterB (cAt s 0)) || inB kws s)=false from h1];rfl
   have hl32:s.length≤32:=by
     simp only [Bool.or_eq_false_iff,decide_eq_false_iff_not] at h1;omega
   refine AU ?_
   refine Zfa (fun (i:Nat) u1=>(1≤i∧∀ j,1≤j→(h:j<s.length)→j<i→alB s[j]=true)∧G w19 u1) [(0,True,_)] (fun (i:Nat)=>[(3,True,.int .i64 i)]) (fun (i:Nat)=>s.length-i) (1) ⟨⟨by omega,fun j h1 _ h2=>by omega⟩,G.refl _⟩ (Za O (Za O (Zp _))) ?_
   rintro i u1 ⟨hI1,gl1⟩
   have g:=g.trans gl1
   refine IF (fun h2=>?_) fun h2=>?_
   · replace h2:i<s.length:=by simp only [decide_eq_true_eq] at h2;omega
     refine Ya (kq (Zj (Yv (Zj (Zm (Zq O (Zq O (Zo O (fun _=>Jj Yu (Zc O) (Zc O) (fun _=>by omega)) (Vh O (Yl Wfa Vi (aqc O aq0) O) (Zgf _ _) (fun w30 g30=>?_))))))))))
     have g:=g.trans g30
     have gl1:=gl1.trans (g30)
     refine Xtg O (Zq O (Zi O O O (fun _=>Zl (Zc O)) (Zi O O O (fun _=>Zl (Zc O)) (Zi O O O (fun _=>Jj Yu (Zk O id) (Zk O id) (fun hc=>by omega)) (Xy O O O (fun _=>(Yl Qra Vi (Yr (Zk O id) (Xl)) O)) (fun hc=>Wdg _ _) (fun w36 g36=>?_))))))
     have g:=g.trans g36
     have gl1:=gl1.trans (g36)
     refine IF (fun h3=>?_) fun h3=>?_
     · have h3':alB s[i]=false:=by
         rw [alB,← Upf h2];simpa [cAt] using h3
       refine RTN ?_
       refine ⟨Yxh ?_,g⟩
       rw [hn,eq_comm,List.all_eq_false]
       exact ⟨s[i],List.mem_drop_iff_getElem.2 ⟨i-1,by omega,by congr 1;omega⟩,by rw [h3'];simp⟩
     have h3':alB s[i]=true:=by
       rw [alB,← Upf h2]
       cases ha:letterB (cAt s i)
       · cases hb:digitB (cAt s i)
         · exfalso
           have h3:(!letterB (cAt s i) && !digitB (cAt s i))=false:=h3
           rw [ha,hb] at h3;cases h3
         · rfl
       · rfl
     refine AU ?_
     refine SK [3,0] ?_
     refine Ze (fun a ha=>?_)
     refine ⟨i+1,ha,⟨⟨by omega,fun j h4 h5 h6=>?_⟩,gl1⟩,by omega⟩
     by_cases e:j=i
     · subst e;exact h3'
     · exact hI1.2 j h4 h5 (by omega)
   replace h2:s.length≤i:=by simp only [decide_eq_false_iff_not] at h2;omega
   refine RTN ?_
   refine ⟨Yxh ?_,g⟩
   rw [hn,eq_comm,List.all_eq_true]
   intro x hx
   obtain ⟨j,hj,rfl⟩:=List.mem_drop_iff_getElem.1 hx
   exact hI1.2 _ (by omega) (by omega) (by omega)
/-! the same by the scanner -/
theorem Qfe{c:Int}(h:letterB c=true):decide (c=10)=false∧((decide (c=32) || decide (c=9)) || decide (c=13))=false∧decide (c=47)=false:=by
 simp only [letterB,Bool.or_eq_true,Bool.and_eq_true,decide_eq_true_eq] at h;simp only [Bool.or_eq_false_iff,decide_eq_false_iff_not];omega
theorem Ued{q:Int→Bool}:∀ {l:List UInt8},(∀ c∈l,q c.toNat=true)→runN q l=l.length
 | [],_=>rfl
 | c::l,h=>by
  rw [runN,if_pos (h c (List.mem_cons_self ..)),Ued fun x hx=>h x (List.mem_cons_of_mem _ hx)];rfl
theorem Uqf{s:List UInt8}(h:nameB s=true):s.length≠0∧s.length≤32∧letterB (cAt s 0)=true∧inB kws s=false∧runN isAlnum s=s.length:=by
 unfold nameB at h;simp only [Bool.and_eq_true,Bool.not_eq_true',Bool.or_eq_false_iff,decide_eq_false_iff_not,Bool.not_eq_false'] at h;obtain ⟨⟨⟨⟨h1,h2⟩,h3⟩,h4⟩,h5⟩:=h;refine ⟨fun e=>h1 (List.length_eq_zero_iff.1 e),by omega,h3,h4,Ued fun c hc=>?_⟩
 cases s with
 | nil=>cases hc
 | cons a l =>
  rcases List.mem_cons.1 hc with rfl|hc;have:letterB (c.toNat:Int)=true:=h3;rw [isAlnum,this];rfl;exact List.all_eq_true.1 h5 c hc
theorem Xqf{l:List UInt8}(h:decide (cAt l 0=47)=false):preB [47,47] l=false:=by
 cases l with
 | nil=>rfl
 | cons a l =>
  have:¬ (a.toNat:Int)=47:=of_decide_eq_false h;unfold preB;rw [Bool.and_eq_false_iff];right;rw [decide_eq_false_iff_not];intro e;rw [List.length_cons,List.take_succ_cons] at e;injection e with e1 _;subst e1;exact this rfl
theorem Xrf{s:List UInt8}(h:nameB s=true):scanF s=([⟨1,s,0⟩],0,0):=by
 obtain ⟨h0,h1,h2,h3,h4⟩:=Uqf h;obtain ⟨a1,a2,a3⟩:=Qfe h2
 have hN:nextF s 0 [] []=(s.length,[⟨1,s,0⟩],[],0):=by
  unfold nextF;rw [a1,a2,show s.drop 0=s from rfl,Xqf a3,h2,h4,Yvh (by omega:¬ (32:Int)<(s.length:Nat)),List.take_of_length_le (Nat.le_refl _),wordK,h3];simp
 have hG:goF s s.length 0 [] []=(s.length,[⟨1,s,0⟩],[],0):=by
  obtain ⟨m,hm⟩:∃ m,s.length=m+1:=⟨s.length-1,by omega⟩;rw [hm,goF,Ywh (by omega:0<s.length),hN];simp only [cond_true,decide_true]
  cases m with
  | zero=>rw [goF,hm]
  | succ m=>rw [goF,Yvh (by omega),cond_false,hm]
 rw [scanF,allF,Yvh (by omega:¬ (20000:Int)<s.length),cond_false,hG];rfl
def NameTok(t:Tok):Prop:=t.kind=1→nameB t.text=true
theorem Qge{s:List UInt8}{p:Nat}{ts:List Tok}(cs:List Tok)(hp:p<s.length)(h:∀ t∈ts,NameTok t):∀ t∈(nextF s p ts cs).2.1,NameTok t:=by
 have hn:∀ (l:List Tok) (t:Tok),(∀ t∈l,NameTok t)→NameTok t→∀ u∈l++[t],NameTok u:=by
  intro l t hl ht u hu;rcases List.mem_append.1 hu with hu|hu;exact hl u hu;rw [List.mem_singleton.1 hu];exact ht
 unfold nextF;cases h1:decide (cAt s p=10);cases h2:((decide (cAt s p=32) || decide (cAt s p=9)) || decide (cAt s p=13));cases h3:preB [47,47] (s.drop p);cases h4:letterB (cAt s p);cases h7:digitB (cAt s p);cases h8:Nat.beq (Xib (s.drop p)) 0;exact hn _ _ h (fun e=>by simp at e);exact h;cases h8:badD s p (runN digitB (s.drop p));cases h9:decide (valN 0 ((s.drop p).take (runN digitB (s.drop p)))<9223372036854775808);exact h;exact hn _ _ h (fun e=>by simp at e);exact h;cases h5:decide ((32:Int)<runN isAlnum (s.drop p));refine hn _ _ h (fun e=>?_);simp only at e ⊢;have hq:isAlnum (cAt s p)=true:=by rw [isAlnum,h4];rfl
 have hpos:=Vva hp hq;have hfit:=Wla isAlnum hp;have hall:=Yvd isAlnum (s.drop p);generalize hX:(s.drop p).take (runN isAlnum (s.drop p))=x at e hall ⊢;have hl:x.length=runN isAlnum (s.drop p):=by rw [← hX,List.length_take,List.length_drop];omega
 have hk:inB kws x=false:=by
  cases hk:inB kws x;rfl;rw [wordK,hk] at e;cases e
 have hc:cAt x 0=cAt s p:=by
  rw [← hX];unfold cAt;simp [List.getD_eq_getElem?_getD,List.getElem?_take,show 0<runN isAlnum (s.drop p) from hpos]
 have h5':=of_decide_eq_false h5;unfold nameB;rw [Yvh (by omega:¬ (32:Int)<(x.length:Nat)),hc,h4,hk,Yvh (by intro e0;rw [e0] at hl;simp at hl;omega)];simp only [Bool.not_true,Bool.or_false,Bool.not_false,Bool.true_and];rw [List.all_eq_true];intro c hc;exact hall c (List.mem_of_mem_drop hc);exact h;exact h;exact h;show ∀ t∈nlTs p ts,NameTok t;intro t ht
 have:nlTs p ts=ts∨∃ q,nlTs p ts=ts++[⟨4,[59],q⟩]:=by
  unfold nlTs
  cases ts.getLast? with
  | none=>exact .inl rfl
  | some u=>simp only [];split <;> first|exact .inl rfl|exact .inr ⟨_,rfl⟩
 rcases this with e|⟨q,e⟩;rw [e] at ht;exact h t ht;rw [e] at ht;exact hn _ _ h (fun e=>by simp at e) t ht
theorem Xye(s:List UInt8):∀ (f p:Nat) (ts cs:List Tok),(∀ t∈ts,NameTok t)→∀ t∈(goF s f p ts cs).2.1,NameTok t
 | 0,_,_,_,h=>h
 | f+1,p,ts,cs,h=>by
  rw [goF];cases hp:decide (p<s.length);exact h;have hn:=Qge (ts:=ts) cs (of_decide_eq_true hp) h;cases decide ((nextF s p ts cs).2.2.2=0);exact hn;exact Xye s f _ _ _ hn
theorem Qhe(s:List UInt8):∀ t∈(scanF s).1,NameTok t:=by
 rw [scanF,allF];cases decide ((20000:Int)<s.length);simp only [cond_false];have:=Xye s s.length 0 [] [] (fun t ht=>by cases ht);cases (!decide ((goF s s.length 0 [] []).2.2.2=0));exact this;exact fun t ht=>by cases ht
 exact fun t ht=>by cases ht
def tok1(l:List Tok):Tok:=l.getD 0 ⟨0,[],0⟩
def Urf(s:List UInt8):Bool:=((decide ((scanF s).2.2=0)&&decide (((scanF s).1.length:Int)=1))&&decide ((tok1 (scanF s).1).kind=1))&&decide ((tok1 (scanF s).1).text=s)
theorem Usf(s:List UInt8):Urf s=nameB s:=by
 cases h:nameB s;rw [Urf,Bool.eq_false_iff];intro hp;simp only [Bool.and_eq_true,decide_eq_true_eq] at hp;obtain ⟨⟨⟨_,h2⟩,h3⟩,h4⟩:=hp
 have hm:tok1 (scanF s).1∈(scanF s).1:=by
  cases hl:(scanF s).1 with
  | nil=>rw [hl] at h2;simp at h2
  | cons a l=>exact List.mem_cons_self ..
 have:=Qhe s _ hm h3;rw [h4,h] at this;cases this;rw [Urf,Xrf h];simp [tok1]
def pb(p:Option Addr):Nat:=match p with|some a=>a.block|none=>0
def po(p:Option Addr):Nat:=match p with|some a=>a.off|none=>0
def anyK:List Int→Int→Bool
 | [],_=>false
 | [a],k=>decide (k=a)
 | a::b::l,k=>decide (k=a) || anyK (b::l) k
def anyS:List (List UInt8)→List UInt8→Bool
 | [],_=>false
 | [a],k=>decide (k=a)
 | a::b::l,k=>decide (k=a) || anyS (b::l) k
theorem Xkb:∀ (l:List Int) (k:Int),anyK l k=true↔k∈l
 | [],k=>by simp [anyK]
 | [a],k=>by simp [anyK]
 | a::b::l,k=>by rw [anyK,Bool.or_eq_true,Xkb (b::l) k,decide_eq_true_eq,List.mem_cons (a:=k) (b:=a)]
theorem Yma:∀ (l:List (List UInt8)) (k:List UInt8),anyS l k=true↔k∈l
 | [],k=>by simp [anyS]
 | [a],k=>by simp [anyS]
 | a::b::l,k=>by rw [anyS,Bool.or_eq_true,Yma (b::l) k,decide_eq_true_eq,List.mem_cons (a:=k) (b:=a)]
theorem Utf{w:World}{b o:Nat}{l:List Tok}(h:RowAt w b o (toksCells l))(hl:0<l.length):RowAt w b o (tokCells (tok1 l)):=by
 cases l with
 | nil=>cases hl
 | cons t l =>
  have:=h.part 0 3;exact this
theorem Yz{P:Program}{n:Nat}{σ:List Ent}{c:Prop}{wb:World}{ty:TypeId}{t e z by_:Nat}{x y:Operand}{p:Option Addr}{m q:Nat}{k:IntKind}{i:Int}(ht:tyElem P t=some (e,z,by_))(h:Ev n σ c x (.slice p m q))(h':Ev n σ c y (.int k i))(hi:c→0≤i∧i<m)(hp:c→p=some ⟨pb p,po p,none⟩) :
  Rd P n σ c wb (.indexAddr t x y) ty (.pointer (some ⟨pb p,po p+i.toNat*z,none⟩)):=.mk fun d pos after gd a ha hc w1 hg =>
 Qea (P:=P) (wb:=wb) ht (Ev.to h fun hc=>congrArg (fun p=>Value.slice p m q) (hp hc)) h' hi d pos after gd a ha hc w1 hg
theorem Jm{P:Program}{Z:List PanicEntry→Act→World→Prop}{ops:List Oper}{cl:List Nat}{lv:List Bool}{W0:World}{n:Nat}{K:Act→World→Prop}{k:Nat}{rest:List Oper}{σ:List Ent}{w:World}{d:Nat}{ty:TypeId}{pos:String}{after:Array Edge}{x y:Operand}{t e z by_:Nat}{p:Option Addr}{m q:Nat}{g:IntKind}{i:Int}(ht:tyElem P t=some (e,z,by_))(hx:opv σ x=some (True,.slice p m q))(hy:opv σ y=some (True,.int g i))(hi:0≤i∧i<m)(hp:p=some ⟨pb p,po p,none⟩)
  (h:SR P Z ops cl lv W0 n K (k+1) rest ((d,True,.pointer (some ⟨pb p,po p+i.toNat*z,none⟩)) :: σ) w) (hb:(Nat.beq (clOf cl k) 3&&Nat.blt d n)=true:=by exact rfl):SR P Z ops cl lv W0 n K k (⟨some d,.indexAddr t x y,ty,pos,after,none⟩::rest) σ w:=Zo hb (fun _=>Yz ht (Ywa hx) (Ywa hy) (fun _=>hi) fun _=>hp) h
theorem Qie{base:Nat}{l:List Tok}{v:Value}{w:World}(h:Toks base l v w):∃ a c,v = .slice a l.length c∧(0<l.length→a=some ⟨pb a,po a,none⟩∧RowAt w (pb a) (po a) (tokCells (tok1 l))):=by
 obtain ⟨a,c,rfl,_⟩:=Vja h;refine ⟨a,c,rfl,fun h0=>?_⟩;obtain ⟨b,c',hv,_,hR,_⟩:=Uta h h0;injection hv with hv _ _;subst hv;exact ⟨rfl,Utf hR h0⟩
theorem Uuf(s:List UInt8)(w:World)(hL:Laid w)(hb3:4≤w.heap.size):Ret PP Wzd #[Str s] w fun v w'=>v = .bool (nameB s)∧G w w':=by
 have g:=G.refl w;refine WK 34 [0] Qmc ?_;refine AU ?_;refine CL (Wcg s _ (hL.grow g) (by have:=g.size;omega)) ?_;rintro v8 w8 ⟨l,rfl,hT,g8⟩;obtain ⟨a,c,rfl,hr⟩:=Qie hT;refine ⟨fun _=>g8,?_⟩;have g:=g.trans g8;refine AU ?_;refine Zi O O O (fun _=>Yz Xf (Zk O id) Xg (fun hc=>by have:=of_decide_eq_true (Bool.and_eq_true_iff.1 hc.2).2;omega) (fun hc=>(hr (by have:=of_decide_eq_true (Bool.and_eq_true_iff.1 hc.2).2;omega)).1)) ?_;refine AU ?_;refine Ye O O O (Zt Yd (Zk O id) (fun hc=>(hr (by have:=of_decide_eq_true (Bool.and_eq_true_iff.1 hc.2).2;omega)).2 0 _ O)) ?_;refine AU ?_;refine Zi O O O (fun _=>Yz Xf (Zk O id) Xg (fun hc=>by have:=of_decide_eq_true (Bool.and_eq_true_iff.1 (Bool.and_eq_true_iff.1 hc.2).1).2;omega) (fun hc=>(hr (by have:=of_decide_eq_true (Bool.and_eq_true_iff.1 (Bool.and_eq_true_iff.1 hc.2).1).2;omega)).1)) ?_;refine AU ?_;refine Ye O O O (Zt Yg (Zk O id) (fun hc=>(hr (by have:=of_decide_eq_true (Bool.and_eq_true_iff.1 (Bool.and_eq_true_iff.1 hc.2).1).2;omega)).2 1 _ O)) ?_;refine RTN ?_;refine ⟨Yxh ?_,g⟩;rw [← Usf];rfl
theorem Ty.ext'{a b:Ty}(h:a.kind=b.kind)(k:a.name=b.name):a=b:=by cases a;cases b;simp_all
def tyEqB(a b:Ty):Bool:=decide (a.kind=b.kind)&&(decide (a.name=b.name)&&true)
theorem Ufd(a b:Ty):tyEqB a b=true↔a=b:=by
 unfold tyEqB;simp only [Bool.and_true,Bool.and_eq_true,decide_eq_true_eq];exact ⟨fun h=>Ty.ext' h.1 h.2,fun h=>by rw [h];exact ⟨rfl,rfl⟩⟩
theorem Qje(a b:Ty):tyEqB a b=tyEqB b a:=by
 rw [Bool.eq_iff_iff,Ufd,Ufd];exact eq_comm
def tInt:Ty:=⟨1,[]⟩
def tBool:Ty:=⟨2,[]⟩
def tNil:Ty:=⟨3,[]⟩
def tyValidB(y:Ty):Bool:=bif decide (y.kind=4) then nameB y.name else (decide (0≤y.kind)&&decide (y.kind≤12))&&decide (y.name=[])
def refB(y:Ty):Bool:=bif anyK [4,5,6,7] y.kind then tyValidB y else false
def Jt(y:Ty):Bool:=(tyEqB y tInt || tyEqB y tBool) || refB y
def Vk(to fr:Ty):Bool:=Jt to&&(tyEqB fr to || (tyEqB fr tNil&&refB to))
def compB(a b:Ty):Bool:=bif tyEqB a tNil || tyEqB b tNil then refB a || refB b
 else bif anyK [1,2,4,6] a.kind then tyEqB a b&&tyValidB a else false
theorem Ugd(y:Ty)(w:World):Ret PP Jnd #[tyV y] w fun v w'=>v = .bool (tyValidB y)∧G w w':=by
 have g:=G.refl w;refine WK 22 [0] Ymd ?_;refine BM fun _ _ _ _ g E=>?_;refine IF (fun h1=>?_) fun h1=>?_;(try simp only [bsimp] at h1);refine AU ?_;refine CP (Vwa _ _) (fun w8 g8=>?_);have g:=g.trans g8;replace E:=E.grow g8;refine RTN ?_;refine ⟨Yxh ?_,g⟩;unfold tyValidB;rw [h1];rfl;refine RTN ?_;refine ⟨Yxh ?_,g⟩;unfold tyValidB;rw [h1];rfl
theorem Weg(y:Ty):((tyValidB y&&decide (4≤y.kind))&&decide (y.kind≤7))=refB y:=by
 unfold refB;by_cases h:4≤y.kind∧y.kind≤7;rw [Ywh h.1,Ywh h.2]
 have:anyK [4,5,6,7] y.kind=true:=by
  simp only [anyK,Bool.or_eq_true,decide_eq_true_eq];omega
 rw [this];simp
 have:anyK [4,5,6,7] y.kind=false:=by
  simp only [anyK,Bool.or_eq_false_iff,decide_eq_false_iff_not];omega
 rw [this,cond_false,Bool.and_eq_false_iff,Bool.and_eq_false_iff,decide_eq_false_iff_not,decide_eq_false_iff_not];omega
theorem Zbd(y:Ty)(w:World):Ret PP Ubc #[tyV y] w fun v w'=>v = .bool (refB y)∧G w w':=by
 have g:=G.refl w;refine WK 15 [0] Xhc ?_;refine BM fun _ _ _ _ g E=>?_;refine AU ?_;refine CP (Ugd _ _) (fun w4 g4=>?_);have g:=g.trans g4;replace E:=E.grow g4;refine RTN ?_;refine ⟨Yxh ?_,g⟩;exact Weg y
theorem Jfa(y:Ty)(w:World):Ret PP Jld #[tyV y] w fun v w'=>v = .bool (Jt y)∧G w w':=by
 have g:=G.refl w;refine WK 15 [0] Yid ?_;refine Zj (Zm (BM fun _ _ _ _ g E=>?_));refine Yo O (Ze (kq (Zj (Zm (Vf Xb O O E.g0.row (Zba Wn Ve (pqc O pq0) O O (Zo O (fun _=>Znb Vaa (Zc O) (Zc O) O) (Zq O (Ye O O O (Zy Xb (Zc O) O (fun _=>E.g0.row)) (Zi O O O (fun _=>Uz [_,_] Wn O Ve (Xt Xg (Vu)) O) (Zi O O O (fun _=>Znb Vaa (Zk O id) (Zk O id) O) (Zo O (fun _=>Wk (Zc O) (Zk O id)) (Zq O (Ye O O O (Zy Xb (Zc O) O (fun _=>E.g0.row)) (Xy O O O (fun _=>(Yl Ysb Vi (Yr (Zk O id) (Xl)) O)) (fun hc=>Zbd _ _) (fun w13 g13=>?_))))))))))))))));have g:=g.trans g13;replace E:=E.grow g13;refine RTN ?_;exact ⟨rfl,g⟩
theorem Wwa(a b:Ty)(w:World):Ret PP Wkc #[tyV a,tyV b] w fun v w'=>v = .bool (Vk a b)∧G w w':=by
 have g:=G.refl w;refine WK 21 [0,1] Zqc ?_;refine BM fun _ _ _ _ g E=>?_;refine BN fun _ _ _ _ g E=>?_;refine Yo O (Ze (kq (Zj (Zm (Vf Xb O O E.g1.row (Vh O (Yl Jmd Vi (aqc O aq0) O) (Jfa _ _) (fun w6 g6=>?_)))))));have g:=g.trans g6;replace E:=E.grow g6;refine Zq O (Ye O O O (Zy Xb (Zc O) O (fun _=>E.g1.row)) (Ye O O O (Zy Xb (Zc O) O (fun _=>E.g0.row)) (Zi O O O (fun _=>Znb Vaa (Zk O id) (Zk O id) O) (Zi O O O (fun _=>Zl (Zk O id)) (Ye O O O (Zy Xb (Zc O) O (fun _=>E.g0.row)) (Zi O O O (fun _=>Uz [_,_] Wn O Ve (Xt Xg (Vu)) O) (Zi O O O (fun _=>Znb Vaa (Zk O id) (Zk O id) O) (Zi O O O (fun _=>Zl (Zk O id)) (Ye O O O (Zy Xb (Zc O) O (fun _=>E.g1.row)) (Xy O O O (fun _=>(Yl Ysb Vi (Yr (Zk O id) (Xl)) O)) (fun hc=>Zbd _ _) (fun w17 g17=>?_)))))))))));have g:=g.trans g17;replace E:=E.grow g17;refine RTN ?_;refine ⟨Yxh ?_,g⟩;unfold Vk;rw [Qje b a];rfl
theorem Uvf(a b:Ty):(((tyEqB a b&&Jt a) && !decide (a.kind=5)) && !decide (a.kind=7))=(bif anyK [1,2,4,6] a.kind then tyEqB a b&&tyValidB a else false):=by
 cases tyEqB a b;simp;simp only [Bool.true_and];unfold Jt refB anyK anyK anyK anyK;by_cases h1:a.kind=1;have:tyEqB a tInt=tyValidB a:=by unfold tyEqB tyValidB;simp [h1,tInt];exact decide_eq_decide.2 Iff.rfl
 have:tyEqB a tBool=false:=by unfold tyEqB;simp [h1,tBool]
 simp_all;by_cases h2:a.kind=2;have:tyEqB a tBool=tyValidB a:=by unfold tyEqB tyValidB;simp [h2,tBool];exact decide_eq_decide.2 Iff.rfl
 have:tyEqB a tInt=false:=by unfold tyEqB;simp [h2,tInt]
 simp_all;have e1:tyEqB a tInt=false:=by unfold tyEqB;simp [h1,tInt]
 have e2:tyEqB a tBool=false:=by unfold tyEqB;simp [h2,tBool]
 rw [e1,e2];by_cases h4:a.kind=4;simp [h4];by_cases h6:a.kind=6;simp [h6];by_cases h5:a.kind=5;simp [h5];by_cases h7:a.kind=7;simp [h7];simp [h1,h2,h4,h5,h6,h7]
theorem Uwf(a b:Ty)(w:World):Ret PP Woc #[tyV a,tyV b] w fun v w'=>v = .bool (compB a b)∧G w w':=by
 have g:=G.refl w;refine WK 38 [0,1] Zyc ?_;refine BM fun _ _ _ _ g E=>?_;refine BN fun _ _ _ _ g E=>?_;refine AN fun _ _ _ _ g E=>?_;refine AS fun _ _ _ g E=>?_;refine IF (fun h1=>?_) fun h1=>?_;have hq:(tyEqB a tNil || tyEqB b tNil)=true:=h1;refine AU ?_;refine CP (Zbd _ _) (fun w16 g16=>?_);have g:=g.trans g16;replace E:=E.grow g16;refine AU ?_;refine CG (fun hc=>Zbd _ _) (fun w19 g19=>?_);have g:=g.trans g19;replace E:=E.grow g19;refine RTN ?_;refine ⟨Yxh ?_,g⟩;unfold compB;rw [hq];rfl;have hq:(tyEqB a tNil || tyEqB b tNil)=false:=h1;refine AU ?_;refine CG (fun hc=>Jfa _ _) (fun w26 g26=>?_);have g:=g.trans g26;replace E:=E.grow g26;refine RTN ?_;refine ⟨Yxh ?_,g⟩;unfold compB;rw [hq,← Uvf];rfl
def tFunc:Ty:=⟨7,[]⟩
def typTexts:List (List UInt8):=[[],[105,110,116],[98,111,111,108],[110,105,108],[],[91,93,105,110,116],[99,104,97,110,32,105,110,116],[102,117,110,99,40,41],[109,117,116,101,120],[114,119,109,117,116,101,120],[103,114,111,117,112],[111,110,99,101],[97,116,111,109,105,99]]
def LaidT(w:World):Prop:=RowAt w 0 0 (typTexts.map Str)
theorem LaidT.grow{w w':World}(h:LaidT w)(g:G w w'):LaidT w':=RowAt.grow h g
theorem Uxf{k:Int}(h0:0≤k)(h1:k≤12):(typTexts.map Str)[k.toNat]? = some (Str (typTexts.getD k.toNat [])):=by
 have hl:typTexts.length=13:=rfl;have h:k.toNat<typTexts.length:=by omega
 rw [List.getElem?_map,List.getElem?_eq_getElem h,List.getD_eq_getElem?_getD,List.getElem?_eq_getElem h];rfl
end Go.Rk
namespace Go.Rk
open Go.Proofs
open Go Go.RowKit Go.ChangeShapes Go.WideShapes
end Go.Rk
namespace Go.Rk
open Go.Proofs
open Go Go.RowKit Go.ChangeShapes Go.WideShapes Go.ChangeAt
theorem Yuc{H:Type}{enc:TypeId×Value→H}{P:Program}{w:World}{base:Nat}{sp:Nat→Bool}{held:Bool}{fuel:Nat}{t e:TypeId}{n:Nat}{cs:List Value}{ls:List (List UInt8)}{p:List MemPlace}
 (ht:P.underlying t=some (.array n e)) (he:P.underlying e=some .string) (hce:P.cellsOf e=1) (hct:P.cellsOf t=n)
 (h:DataW.trod enc P w base sp held fuel t cs=some (.agg (ls.map fun l=>.lit (.string l)),p)):cs=ls.map Str:=by
 cases fuel with
 | zero=>simp [DataW.trod] at h
 | succ fuel =>
  simp only [DataW.trod,ht,hce,hct,Nat.mul_one] at h;split at h;rename_i hl;obtain ⟨xs,hm,hx⟩:=Option.map_eq_some_iff.1 h
  have hxs:xs.map (·.1)=ls.map fun l=>(DataW.lit (.string l):DataW H):=by
   have:=congrArg Prod.fst hx;simpa using this
  have hxl:xs.length=n:=by simpa using Lib.mapM_length hm
  have hzl:ls.length=n:=by
   have:=congrArg List.length hxs;simp at this;omega
  apply List.ext_getElem?;intro i;by_cases hi:i<n;obtain ⟨b,hb,hf⟩:=Lib.mapM_at hm i i (by simp [hi]);obtain ⟨s,hc,rfl,_⟩:=DataW.trod_string he hf
  have h1:cs[i]? = some (.string s):=by
   have:=congrArg (·[0]?) hc;simpa [List.getElem?_take,List.getElem?_drop] using this
  have h2:(xs.map (·.1))[i]? = some (DataW.lit (.string s.data.toList):DataW H):=by simp [hb]
  rw [hxs] at h2;simp only [List.getElem?_map,Option.map_eq_some_iff,DataW.lit.injEq,Lit.string.injEq] at h2;obtain ⟨z',hz',e⟩:=h2;rw [h1];simp [hz',e];rw [List.getElem?_eq_none (by omega),List.getElem?_eq_none (by simp;omega)];cases h
theorem Zee{P:Program}{x:String×DataW Unit}{r:List (String×DataW Unit)}{W:World}{g:Nat}{t:TypeId}(h:laidMet P (x::r) W)(hg:P.globalNamed x.1=some g)(ht:(P.globals[g]?).map (·.type)=some t) :
 ∃ cs fuel p,W.var? P x.1=some cs∧DataW.trod (fun _=>()) P W 0 (fun _=>true) false fuel t cs.toList=some (x.2,p):=by
 obtain ⟨n,d⟩:=x;obtain ⟨ps,⟨g',t',cs,fuel,p,q,hg',ht',hvar,hd,_,_⟩,_⟩:=h;obtain rfl:=Option.some.inj (hg.symm.trans hg');obtain rfl:=Option.some.inj (ht.symm.trans ht');exact ⟨cs,fuel,p,hvar,hd⟩
abbrev laidL:List (String×DataW Unit):=Go.Proofs.YtapkdoacegpgaaaGreatDoor.Rows.captureLocalsRow.laid
theorem Xad{W:World}(h:laidMetH PP laidL W):Laid W:=by
 have h0:laidMet PP laidL W:=h;obtain ⟨cs,fuel,p,hv,hd⟩:=Zee h0.tail.tail.tail.tail.tail (g:=1) (t:=122) (by kernel_rfl) (by kernel_rfl);have hc:cs.toList=opsL.map Str:=Yuc (n:=27) (e:=9) (by kernel_rfl) (by kernel_rfl) (by kernel_rfl) (by kernel_rfl) hd;obtain ⟨cs2,fuel2,p2,hv2,hd2⟩:=Zee h0.tail.tail.tail (g:=3) (t:=119) (by kernel_rfl) (by kernel_rfl);obtain ⟨ms,hms⟩:∃ ms,PP.underlying 119=some (.interface ms):=Go.underlying_of_isIface Xqe;obtain ⟨f',u,v,hc2,_⟩:=iface_of_trod hms hd2;refine ⟨fun j v hj=>?_,?_⟩;have:=World.var?_cell (by kernel_rfl:PP.globalNamed _=some 1) hv j;rw [Nat.zero_add,this,← hj,← hc];simp;have:=World.var?_cell (by kernel_rfl:PP.globalNamed _=some 3) hv2 0;refine ⟨.iface u v,?_,.inr ⟨_,_,rfl⟩⟩;rw [this,← Array.getElem?_toList,hc2];rfl
theorem Uhd{W:World}(h:Laid W):4≤W.heap.size:=by
 obtain ⟨ev,h1,_⟩:=h.err;exact World.block_lt_of_cell? W _ h1
theorem Xbd{W:World}(h:laidMetH PP laidL W):LaidT W:=by
 have h0:laidMet PP laidL W:=h;obtain ⟨cs,fuel,p,hv,hd⟩:=Zee h0.tail.tail.tail.tail.tail.tail (g:=0) (t:=79) (by kernel_rfl) (by kernel_rfl);have hc:cs.toList=typTexts.map Str:=Yuc (n:=13) (e:=9) (by kernel_rfl) (by kernel_rfl) (by kernel_rfl) (by kernel_rfl) hd;intro j v hj;have:=World.var?_cell (by kernel_rfl:PP.globalNamed _=some 0) hv j;rw [Nat.zero_add,this,← hj,← hc];simp
end Go.Rk
namespace Go.Proofs.YtapkdoacegpgaaaGreatDoor
open Go Go.RowKit Go.ChangeShapes Go.WideShapes Go.ChangeAt Go.Rk
theorem own:ownKnob Tryz.prog.godebug=none:=by kernel_rfl
def cellOf:DataW Unit→Value
 | .lit (.int k z)=>.int k z
 | .lit (.string s)=>.string ⟨s.toArray⟩
 | _=>.nilIface
def cellsOf:DataW Unit→Array Value
 | .agg l=>(l.map cellOf).toArray
 | _=>#[]
def Uyf:DataW Unit→Value
 | .iface _ (.ptr (.agg [d]))=>cellOf d
 | _=>.nilIface
def put(h:Array Obj)(g:Nat)(cs:Array Value):Array Obj:=h.modify g fun
 | .cells _ t frozen=>.cells cs t frozen
 | o=>o
noncomputable def laidWorld(os:Os):World :=
 let N:=(World.settled Tryz.prog os).heap.size
 let w0:=World.holding Tryz.prog os ⟨#[.cells #[Uyf Rows.laid_strconv_ErrSyntax] 151,.cells #[Uyf Rows.laid_strconv_ErrRange] 151],#[],[]⟩
 let h0:=put w0.heap 0 (cellsOf Rows.laid_interleave_types_texts)
 let h1:=put h0 1 (cellsOf Rows.laid_interleave_scan_operators)
 let h2:=put h1 2 #[.iface 149 (.pointer (some ⟨N,0,none⟩))]
 let h3:=put h2 3 #[.iface 149 (.pointer (some ⟨N+1,0,none⟩))]
 let h4:=put h3 4 (cellsOf Rows.laid_internal_strconv_uint64pow10)
 let h5:=put h4 5 (cellsOf Rows.laid_math_bits_deBruijn32tab)
 let h6:=put h5 6 (cellsOf Rows.laid_math_bits_deBruijn64tab)
 { w0 with heap:=h6 }
end Go.Proofs.YtapkdoacegpgaaaGreatDoor
namespace Go.Rk
open Go.Proofs
open Go Go.RowKit
def rng(z:Int):Prop := -9223372036854775808≤z∧z≤9223372036854775807
def okNd(t:Nd):Prop:=para (fun t l=>rng t.kind∧rng t.num∧rng t.pos∧rng t.ty.kind∧rng t.ref∧rng t.up∧∀ p∈l,p) t
theorem Wfg(t:Nd):okNd t=(rng t.kind∧rng t.num∧rng t.pos∧rng t.ty.kind∧rng t.ref∧rng t.up∧∀ p∈t.kids.map okNd,p):=Yca _ t
def weight(t:Nd):Nat:=para (fun t l=>1+t.text.length+l.sum) t
theorem Uid(t:Nd):weight t=1+t.text.length+(t.kids.map weight).sum:=Yca _ t
theorem Jsc:∀ t,count t≤weight t:=by
 refine Nd.ind fun t ih=>?_
 have:∀ (l:List Nd),(∀ k∈l,count k≤weight k)→(l.map count).sum≤(l.map weight).sum:=by
  intro l
  induction l with
  | nil=>intro _;simp
  | cons a l ihl=>intro h;have:=h a List.mem_cons_self;have:=ihl fun k hk=>h k (List.mem_cons_of_mem _ hk);simp;omega
 rw [Uw,Uid];have:=this t.kids ih;omega
end Go.Rk
namespace Go.Rk
open Go.Proofs
open Go Go.RowKit Go.ChangeShapes Go.WideShapes
abbrev bulk{H:Type}:DataW H→Nat:=Go.Proofs.YtapkdoacegpgaaaGreatDoor.Rows.uptoBulk
abbrev bulkAll{H:Type}:List (DataW H)→Nat:=Go.Proofs.YtapkdoacegpgaaaGreatDoor.Rows.uptoBulkAll
theorem Zsb{H:Type}:∀ (l:List (DataW H)) (d:DataW H),d∈l→bulk d≤bulkAll l
 | [],d,h=>by cases h
 | x::l,d,h=>by
  simp only [bulk,bulkAll,Go.Proofs.YtapkdoacegpgaaaGreatDoor.Rows.uptoBulkAll];rcases List.mem_cons.1 h with rfl|h;omega;have:=Zsb l d h;simp only [bulk,bulkAll] at this;omega
theorem Qxb{H:Type}:∀ (l m:List (DataW H)),bulkAll (l++m)=bulkAll l+bulkAll m
 | [],m=>by simp [bulkAll,Go.Proofs.YtapkdoacegpgaaaGreatDoor.Rows.uptoBulkAll]
 | x::l,m=>by
  have:=Qxb l m;simp only [bulkAll,List.cons_append,Go.Proofs.YtapkdoacegpgaaaGreatDoor.Rows.uptoBulkAll] at this ⊢;omega
theorem Jub:PP.underlying 3=some (.int .i64):=by kernel_rfl
theorem Xcd:PP.underlying 9=some .string:=by kernel_rfl
theorem Zhf:PP.cellsOf 3=1:=by kernel_rfl
theorem Xdd:PP.cellsOf 9=1:=by kernel_rfl
noncomputable def fieldsOf'(t:TypeId):Option (List (Nat×Nat)):=match PP.underlying t with|some (.struct fs)=>some (fs.toList.map fun f=>(f.type,f.offset))|_=>none
theorem Xze{t:TypeId}{L:List (Nat×Nat)}(hL:fieldsOf' t=some L):∃ fs,PP.underlying t=some (.struct fs):=by
 unfold fieldsOf' at hL;split at hL;rename_i fs hfs;exact ⟨fs,hfs⟩;cases hL
theorem len2{α:Type}{l:List α}(h:l.length=2):∃ a b,l=[a,b]:=by
 match l,h with
 | [a,b],_=>exact ⟨a,b,rfl⟩
theorem len8{α:Type}{l:List α}(h:l.length=8):∃ a b c d e f g i,l=[a,b,c,d,e,f,g,i]:=by
 match l,h with
 | [a,b,c,d,e,f,g,i],_=>exact ⟨a,b,c,d,e,f,g,i,rfl⟩
theorem len9{α:Type}{l:List α}(h:l.length=9):∃ a b c d e f g i j,l=[a,b,c,d,e,f,g,i,j]:=by
 match l,h with
 | [a,b,c,d,e,f,g,i,j],_=>exact ⟨a,b,c,d,e,f,g,i,j,rfl⟩
section
variable {H:Type} {enc:TypeId×Value→H} {w:World} {base:Nat} {sp:Nat→Bool} {held:Bool}
theorem Qyb{t:TypeId}{L:List (Nat×Nat)}(hL:fieldsOf' t=some L){fuel:Nat}{cs:List Value}{x:DataW H×List MemPlace}(h:DataW.trod enc PP w base sp held fuel t cs=some x) :
 ∃ (xs:List (DataW H×List MemPlace)) (n:Nat),x=(.agg (xs.map (·.1)),xs.flatMap (·.2))∧cs.length=PP.cellsOf t∧xs.length=L.length∧
 ∀ (i ty o:Nat),L[i]? = some (ty,o)→DataW.trod enc PP w base sp held n ty ((cs.drop o).take (PP.cellsOf ty))=xs[i]?:=by
 unfold fieldsOf' at hL;split at hL;rename_i fs hfs;injection hL with hL;obtain ⟨xs,n,rfl,rfl,hl,hxl,hx⟩:=DataW.trod_struct hfs h;refine ⟨xs,n,rfl,hl,by rw [← hL,hxl];simp,fun i ty o hi=>?_⟩;rw [← hL,List.getElem?_map] at hi
 cases hq:fs.toList[i]? with
 | none=>rw [hq] at hi;cases hi
 | some f =>
  rw [hq] at hi;simp only [Option.map_some,Option.some.injEq,Prod.mk.injEq] at hi;obtain ⟨rfl,rfl⟩:=hi;exact hx i f (by rw [← Array.getElem?_toList];exact hq)
 cases hL
theorem Umc{z:Int}(h:(Lit.int .i64 z).wf=true):rng z:=by
 simp only [Lit.wf,Bool.and_eq_true,decide_eq_true_eq] at h;exact h
theorem Xsf:fieldsOf' 24=some [(3,0),(9,1)]:=by kernel_rfl
theorem Uzf:PP.cellsOf 24=2:=by kernel_rfl
theorem Qaf{fuel:Nat}{cs:List Value}{x:DataW H×List MemPlace}(h:DataW.trod enc PP w base sp held fuel 24 cs=some x):∃ y:Ty,cs=tyCells y∧rng y.kind∧y.name.length+1≤bulk x.1:=by
 obtain ⟨xs,n,rfl,hl,hxl,hx⟩:=Qyb Xsf h;rw [Uzf] at hl;have h0:=hx 0 _ _ rfl;have h1:=hx 1 _ _ rfl;rw [Zhf] at h0;rw [Xdd] at h1;obtain ⟨v0,v1,rfl⟩:=len2 hl;obtain ⟨y0,y1,rfl⟩:=len2 hxl;skip;simp only [List.drop_zero,List.take_succ_cons,List.take_zero,List.drop_succ_cons,List.getElem?_cons_zero,List.getElem?_cons_succ] at h0 h1;obtain ⟨z0,c0,rfl,w0⟩:=DataW.trod_int Jub h0;obtain ⟨s1,c1,rfl,_⟩:=DataW.trod_string Xcd h1;injection c0 with c0 _;injection c1 with c1 _;subst c0 c1;refine ⟨⟨z0,s1.data.toList⟩,rfl,Umc w0,?_⟩;simp [bulk,Go.Proofs.YtapkdoacegpgaaaGreatDoor.Rows.uptoBulk,Go.Proofs.YtapkdoacegpgaaaGreatDoor.Rows.uptoBulkAll];omega
theorem Unc:fieldsOf' 26=some [(3,0),(9,1),(3,2),(3,3),(22,4),(24,5),(3,7),(3,8)]:=by kernel_rfl
theorem Qbf:PP.cellsOf 26=9:=by kernel_rfl
theorem Wgg:PP.cellsOf 22=1:=by kernel_rfl
theorem Whg:PP.underlying 22=some (.slice 26):=by kernel_rfl
theorem Ujd{w:World}{b:Nat}{D:Nat→Prop}:∀ (l:List Nd) (o:Nat),(∀ i,(h:i<l.length)→∃ v,RowAt w b (o+i*9) (ndCells l[i] v)∧Kd w D l[i].kids v)→∃ xs,RowAt w b o xs∧KRow w D l xs
 | [],o,_=>⟨[],fun j v hj=>by simp at hj,rfl⟩
 | t::l,o,h=>by
  obtain ⟨v0,h0,k0⟩:=h 0 (by simp)
  obtain ⟨xs,ih,kx⟩:=Ujd l (o+9) (fun i hi=>by
   obtain ⟨v,h1,h2⟩:=h (i+1) (by simpa using hi);rw [show o+(i+1)*9=o+9+i*9 by omega] at h1;exact ⟨v,by simpa using h1,by simpa using h2⟩)
  refine ⟨ndCells t v0++xs,fun j v hj=>?_,Xh (by simpa using k0) kx⟩;by_cases hj9:j<9;rw [List.getElem?_append_left (by simpa [ndCells] using hj9)] at hj;exact h0 j v (by simpa using hj);rw [List.getElem?_append_right (by simp [ndCells];omega)] at hj;have:=ih (j-9) v (by simpa [ndCells] using hj);rw [show o+9+(j-9)=o+j by omega] at this;exact this
theorem Wig:∀ (N fuel:Nat) (cs:List Value) (x:DataW H×List MemPlace),bulk x.1≤N→DataW.trod enc PP w base sp held fuel 26 cs=some x→
    ∃ (t : Nd) (v : Value), cs = ndCells t v ∧ Kd w (fun _ => True) t.kids v ∧ okNd t ∧ weight t ≤ bulk x.1 := by
  intro N
  induction N with
  | zero =>
    intro fuel cs x hb h
    obtain ⟨xs, n, rfl, _⟩ := Qyb Unc h
    simp [bulk, Go.Proofs.YtapkdoacegpgaaaGreatDoor.Rows.uptoBulk] at hb
  | succ N ih =>
    intro fuel cs x hb h
    obtain ⟨xs, n, rfl, hl, hxl, hx⟩ := Qyb Unc h
    rw [Qbf] at hl
    have h0 := hx 0 _ _ rfl
    have h1 := hx 1 _ _ rfl
    have h2 := hx 2 _ _ rfl
    have h3 := hx 3 _ _ rfl
    have h4 := hx 4 _ _ rfl
    have h5 := hx 5 _ _ rfl
    have h6 := hx 6 _ _ rfl
    have h7 := hx 7 _ _ rfl
    rw [Zhf] at h0 h2 h3 h6 h7
    rw [Xdd] at h1
    rw [Wgg] at h4
    rw [Uzf] at h5
    obtain ⟨v0, v1, v2, v3, v4, v5, v5', v6, v7, rfl⟩ := len9 hl
    obtain ⟨y0, y1, y2, y3, y4, y5, y6, y7, rfl⟩ := len8 hxl
    · skip
      simp only [List.drop_zero, List.take_succ_cons, List.take_zero, List.drop_succ_cons, List.getElem?_cons_zero, List.getElem?_cons_succ] at h0 h1 h2 h3 h4 h5 h6 h7
      obtain ⟨z0, c0, rfl, w0⟩ := DataW.trod_int Jub h0
      obtain ⟨s1, c1, rfl, _⟩ := DataW.trod_string Xcd h1
      obtain ⟨z2, c2, rfl, w2⟩ := DataW.trod_int Jub h2
      obtain ⟨z3, c3, rfl, w3⟩ := DataW.trod_int Jub h3
      obtain ⟨z6, c6, rfl, w6⟩ := DataW.trod_int Jub h6
      obtain ⟨z7, c7, rfl, w7⟩ := DataW.trod_int Jub h7
      obtain ⟨y, cy, wy, _⟩ := Qaf h5
      injection c0 with c0 _; injection c1 with c1 _; injection c2 with c2 _; injection c3 with c3 _; injection c6 with c6 _; injection c7 with c7 _
      simp only [tyCells, List.cons.injEq, and_true] at cy
      obtain ⟨cy1, cy2⟩ := cy
      subst c0 c1 c2 c3 c6 c7 cy1 cy2
      have hb4 : bulk y4.1 ≤ N := by
        simp only [bulk, Go.Proofs.YtapkdoacegpgaaaGreatDoor.Rows.uptoBulk, Go.Proofs.YtapkdoacegpgaaaGreatDoor.Rows.uptoBulkAll, List.map_cons, List.map_nil] at hb ⊢; omega
      have done : ∀ (ks : List Nd), Kd w (fun _ => True) ks v4 → (∀ k ∈ ks, okNd k) → (ks.map weight).sum ≤ bulk y4.1 →
          ∃ (t : Nd) (v : Value), [Value.int .i64 z0, .string s1, .int .i64 z2, .int .i64 z3, v4, .int .i64 y.kind, Str y.name, .int .i64 z6, .int .i64 z7] = ndCells t v ∧ Kd w (fun _ => True) t.kids v ∧ okNd t ∧ weight t ≤ bulk (DataW.agg (List.map (·.1) [((.lit (.int .i64 z0) : DataW H), ([] : List MemPlace)), (.lit (.string s1.data.toList), []), (.lit (.int .i64 z2), []), (.lit (.int .i64 z3), []), y4, y5, (.lit (.int .i64 z6), []), (.lit (.int .i64 z7), [])])) := by
        intro ks hk hok hc
        refine ⟨.mk z0 s1.data.toList z2 z3 ks y z6 z7, v4, rfl, hk, ?_, ?_⟩
        · rw [Wfg]
          refine ⟨Umc w0, Umc w2, Umc w3, wy, Umc w6, Umc w7, fun p hp => ?_⟩
          obtain ⟨k, hk1, rfl⟩ := List.mem_map.1 hp
          exact hok k hk1
        · rw [Uid]
          simp only [bulk, Go.Proofs.YtapkdoacegpgaaaGreatDoor.Rows.uptoBulk, Go.Proofs.YtapkdoacegpgaaaGreatDoor.Rows.uptoBulkAll, List.map_cons, List.map_nil] at hc ⊢
          show 1 + s1.data.toList.length + (ks.map weight).sum ≤ _
          omega
      rcases Go.Deep.open_slice Whg h4 with ⟨e4, rfl⟩ | ⟨a, len, cap, m, n', D, Pl, e4, hba, hlc, hcm, hmm, rfl, hxs⟩
      · injection e4 with e4 _
        subst e4
        exact done [] (Jya w _) (fun k hk => by cases hk) (Nat.zero_le _)
      · injection e4 with e4 _
        subst e4
        have hlm : len ≤ m := by rw [hmm]; split <;> omega
        rw [Qbf] at hxs
        have hle : bulkAll ((List.range len).map D) + 1 ≤ bulk (DataW.slice ((List.range len).map D) ((List.range (m - len)).map fun j => D (len + j))) := by
          simp only [bulk, bulkAll, Go.Proofs.YtapkdoacegpgaaaGreatDoor.Rows.uptoBulk]; omega
        have build : ∀ k, k ≤ len → ∃ l : List Nd, l.length = k ∧ (∀ i, (h : i < l.length) → ∃ v, w.cells? base (a.add (i * 9)) 9 = some (ndCells l[i] v) ∧ Kd w (fun _ => True) l[i].kids v) ∧ (∀ t ∈ l, okNd t) ∧ (l.map weight).sum ≤ bulkAll ((List.range k).map D) := by
          intro k
          induction k with
          | zero => intro _; exact ⟨[], rfl, fun i hi => by simp at hi, fun t ht => (by cases ht), Nat.zero_le _⟩
          | succ k ihk =>
            intro hk
            obtain ⟨l, hl1, hl2, hl3, hl4⟩ := ihk (by omega)
            obtain ⟨cs', q1, q2⟩ := hxs k (by omega)
            have hbk : bulk (D k) ≤ N := by
              have := Zsb ((List.range len).map D) (D k) (List.mem_map_of_mem (List.mem_range.2 (by omega)))
              simp only [] at hb4; omega
            obtain ⟨t, v, rfl, kt, ot, ct⟩ := ih n' cs' _ hbk q2
            refine ⟨l ++ [t], by simp [hl1], fun i hi => ?_, fun u hu => ?_, ?_⟩
            · by_cases hik : i < l.length
              · obtain ⟨v', e1, e2⟩ := hl2 i hik
                rw [List.getElem_append_left hik]; exact ⟨v', e1, e2⟩
              · have hi' : i = l.length := by simp at hi; omega
                subst hi'
                rw [List.getElem_append_right (Nat.le_refl _)]
                simp only [Nat.sub_self, List.getElem_cons_zero]
                exact ⟨v, by rw [hl1]; exact q1, kt⟩
            · rcases List.mem_append.1 hu with hu | hu
              · exact hl3 u hu
              · rw [List.mem_singleton.1 hu]; exact ot
            · rw [List.range_succ, List.map_append, List.map_append, List.sum_append, Qxb]
              have : bulkAll (List.map D [k]) = bulk (D k) := by simp [bulkAll, bulk, Go.Proofs.YtapkdoacegpgaaaGreatDoor.Rows.uptoBulkAll]
              rw [this]; simp only [List.map_cons, List.map_nil, List.sum_cons, List.sum_nil]; simp only [] at ct; omega
        obtain ⟨l, hl1, hl2, hl3, hl4⟩ := build len (Nat.le_refl _)
        refine done l ⟨some a, cap, by rw [hl1], by rw [hl1]; exact hlc, fun hpos => ?_⟩ hl3 (by simp only [] at hl4 hle ⊢; omega)
        obtain ⟨v0, h0, _⟩ := hl2 0 hpos
        obtain ⟨_, _, hc0⟩ := World.cells?_some h0
        have hc := hc0 0 (by omega)
        have hsp : a.spot = none := by
          cases hq : a.spot with
          | none => rfl
          | some y =>
            have : w.cell? ((a.add (0 * 9)).add 0) = none := by
              unfold World.cell?
              split
              · simp [Addr.add, hq]
              · rfl
            rw [this] at hc; simp [ndCells] at hc
        have ha : a = ⟨a.block, a.off, none⟩ := by cases a; simp only at hsp; rw [hsp]
        obtain ⟨xs', r1, r2⟩ := Ujd (w := w) (b := a.block) (D := fun _ => True) l a.off (fun i hi => by
          obtain ⟨v, e1, e2⟩ := hl2 i hi
          refine ⟨v, ?_, e2⟩
          obtain ⟨_, _, hci⟩ := World.cells?_some e1
          intro j u hj
          have hj9 : j < 9 := by have := (List.getElem?_eq_some_iff.mp hj).1; simpa [ndCells] using this
          have := hci j hj9
          rw [hj] at this
          rw [← this]
          congr 1
          rw [ha, Addr.add_lit, Addr.add_lit])
        exact ⟨a.block, a.off, by rw [ha], trivial, xs', r1, r2⟩
set_option maxRecDepth 100000 in
theorem Qke{r:Reach}{b0:Nat}{v:Value}{d:DataW H}{p:List MemPlace}(hv:Value.okWide PP w r b0 26 v)(h:DataW.Trod enc PP w base sp held 26 v d p):∃ (t:Nd) (u:Value),v=ndV t u∧Kd w (fun _=>True) t.kids u∧okNd t∧weight t≤bulk d:=by
 obtain ⟨fs,hfs⟩:=Xze Unc;obtain ⟨cs,rfl,_⟩:=okWide_struct hfs hv;obtain ⟨fuel,hf⟩:=h;obtain ⟨t,u,ht,h1,h2,h3⟩:=Wig _ fuel _ _ (Nat.le_refl _) hf;refine ⟨t,u,?_,h1,h2,h3⟩;show Value.agg cs=Value.agg (ndCells t u).toArray;rw [← ht];simp [Value.cells]
set_option maxRecDepth 100000 in
theorem Ukd{r:Reach}{b0:Nat}{v:Value}{d:DataW H}{p:List MemPlace}(hv:Value.okWide PP w r b0 26 v)(h:DataW.Trod enc PP w base sp held 26 v d p):∃ (t:Nd) (u:Value),v=ndV t u∧Kd w (fun _=>True) t.kids u∧okNd t∧count t≤bulk d:=by
 obtain ⟨t,u,h1,h2,h3,h4⟩:=Qke hv h;exact ⟨t,u,h1,h2,h3,Nat.le_trans (Jsc t) h4⟩
end
end Go.Rk
namespace Go.Rk
open Go.Proofs
open Go Go.RowKit
section
variable {α:Type} {f:α→List Value} {z:Nat}
theorem Qda(hf:∀ a,(f a).length=z):∀ (l:List α),(l.flatMap f).length=l.length*z
 | []=>by simp
 | a::l=>by rw [List.flatMap_cons,List.length_append,hf,Qda hf l,List.length_cons,Nat.succ_mul,Nat.add_comm]
theorem Zif(hf:∀ a,(f a).length=z):∀ (l:List α) (i:Nat) (h:i<l.length),((l.flatMap f).drop (i*z)).take z=f l[i]
 | [],_,h=>by cases h
 | a::l,0,_=>by
  rw [List.flatMap_cons,Nat.zero_mul,List.drop_zero,List.take_append_of_le_length (by rw [hf];exact Nat.le_refl _),List.take_of_length_le (by rw [hf];exact Nat.le_refl _)];rfl
 | a::l,i+1,h=>by
  have e:(((a::l).flatMap f)).drop ((i+1)*z)=(l.flatMap f).drop (i*z):=by
   rw [List.flatMap_cons,Nat.succ_mul,Nat.add_comm,← List.drop_drop];congr 1;rw [← hf a,List.drop_left]
  rw [e];exact Zif hf l i (by simpa using h)
def RowF(f:α→List Value)(w:World)(l:List α)(v:Value):Prop :=
 ∃ p c,v = .slice p l.length c∧l.length≤c∧(0<l.length→∃ b o,p=some ⟨b,o,none⟩∧RowAt w b o (l.flatMap f))
theorem RowF.grow{w w':World}{l:List α}{v:Value}(h:RowF f w l v)(g:G w w'):RowF f w' l v:=by
 obtain ⟨p,c,rfl,hc,h⟩:=h;refine ⟨p,c,rfl,hc,fun h0=>?_⟩;obtain ⟨b,o,rfl,hR⟩:=h h0;exact ⟨b,o,rfl,hR.grow g⟩
theorem Qzb(w:World):RowF f w [] (.slice none 0 0):=⟨none,0,rfl,Nat.le_refl _,fun h=>absurd h (Nat.lt_irrefl 0)⟩
theorem Xed{w:World}{base:Nat}{e:TypeId}{v:Value}{m:Nat}{l:List α}(h:w.ownsRow base e z v m (l.flatMap f))(hm:m=l.length):RowF f w l v:=by
 subst hm;obtain ⟨a,c,rfl,hc⟩:=Vja h;refine ⟨a,c,rfl,hc,fun h0=>?_⟩;obtain ⟨b,c',hv,_,hR,_⟩:=Uta h h0;injection hv with hv _ _;subst hv;exact ⟨b,0,rfl,hR⟩
theorem Qcf{w:World}{b:Nat}{e:TypeId}{l:List α}{c:Nat}{xs:List Value}(h:Blk w b e xs)(hx:xs=l.flatMap f)(hc:l.length≤c):RowF f w l (.slice (some ⟨b,0,none⟩) l.length c):=by
 subst hx;exact ⟨_,c,rfl,hc,fun _=>⟨b,0,rfl,h.row⟩⟩
theorem Jvb(hf:∀ a,(f a).length=z){w:World}{b o:Nat}{l:List α}(h:RowAt w b o (l.flatMap f)){i:Nat}(hi:i<l.length):RowAt w b (o+i*z) (f l[i]):=by
 have:=h.part (i*z) z;rwa [Zif hf l i hi] at this
end
/-! loops that carry facts on the world -/
def BlkE(b:Nat)(e:TypeId)(l:List Value)(w:World):Prop:=Blk w b e l
def andE(p q:World→Prop)(w:World):Prop:=p w∧q w
def nilE(w:World):Prop:=True
theorem blkE{w:World}{b:Nat}{e:TypeId}{l:List Value}(h:Blk w b e l):BlkE b e l w:=h
theorem Zs{p q:World→Prop}{w:World}(h:p w)(k:q w):andE p q w:=⟨h,k⟩
theorem Yh(w:World):nilE w:=trivial
section
variable {P:Program} {n:Nat} {N T:Act→World→Prop} {X:List (Nat×(Act→World→Prop))} {σ:List Ent} {w:World}
theorem We{c:Code}{α:Type}(I:α→World→Prop)(E:World→Prop)(σc:List Ent)(σf:α→List Ent)(μ:α→Nat)(x0:α)(h0:I x0 w)(hE:E w)(hs:Sub (σf x0 ++ σc) σ)
 (round:∀ x w,I x w→E w→SC P n c (fun a' w'=>∃ y,Kn n (σf y ++ σc) a'∧I y w'∧E w'∧μ y < μ x) X T (σf x ++ σc) w):SC P n (.loop c) N X T σ w:=by
 refine Wpa (fun x w=>I x w∧E w) (fun x=>σf x ++ σc) μ x0 ⟨h0,hE⟩ hs fun x w ⟨h1,h2⟩=>?_;refine .mk fun a ha=>Code.wp_mono (fun e a w q=>?_) (round x w h1 h2 a ha)
 cases e with
 | normal=>obtain ⟨y,q1,q2,q3,q4⟩:=q;exact ⟨y,q1,⟨q2,q3⟩,q4⟩
 | _=>exact q
end
theorem Uoc{w:World}{D:Nat→Prop}:∀ {ls:List Nd} {news:List Value},KRow w D ls news→onesB news=true
 | [],news,h=>by rw [show news=[] from h];rfl
 | t::ls,news,h=>by
  obtain ⟨v,r,rfl,hkn,hr⟩:=h;rw [Yyd] at hkn;obtain ⟨p,c,rfl,_⟩:=hkn;have:=Uoc hr;unfold onesB at this ⊢;rw [List.all_append,this,Bool.and_true];rfl
/-! own rows -/
theorem Zjf{w:World}{base b:Nat}{e:TypeId}{z m:Nat}{l:List Value}(h:Blk w b e l)(hb:base≤b)(hl:l.length=m*z)(hm:m≤1000000):w.ownsRow base e z (.slice (some ⟨b,0,none⟩) m m) m l :=
 ⟨hl,.inr ⟨b,m,l.toArray,rfl,hb,h,Nat.le_refl _,by simp only [maxLen];omega,by simpa using hl,by simp [← hl]⟩⟩
def Dx(base:Nat)(X:List Nat)(b:Nat):Prop:=base≤b∧b∉X
def OwnK(e:TypeId)(D:Nat→Prop)(base:Nat)(w:World)(ks:List Nd)(s:Value):Prop :=
 ∃ xs,w.ownsRow base e 9 s ks.length xs∧KRow w (fun b=>D b∧some b≠s.ownBlock) ks xs∧∀ b,s.ownBlock=some b→D b
section
variable {e:TypeId} {D:Nat→Prop} {base:Nat} {w w':World} {ks:List Nd} {s:Value}
theorem Wxc(e:TypeId)(D:Nat→Prop)(base:Nat)(w:World):OwnK e D base w [] (.slice none 0 0):=⟨[],Zga _ _ _ _,Yzd,fun b h=>by cases h⟩
theorem OwnK.slice(h:OwnK e D base w ks s):∃ a c,s = .slice a ks.length c:=by
 obtain ⟨xs,h1,_⟩:=h;obtain ⟨a,c,h2,_⟩:=Vja h1;exact ⟨a,c,h2⟩
theorem OwnK.ge(h:OwnK e D base w ks s):∀ k,s.ownBlock=some k→base≤k:=by
 obtain ⟨xs,h1,_⟩:=h;exact fun k hk=>(h1.lt k hk).1
theorem OwnK.lt(h:OwnK e D base w ks s):∀ k,s.ownBlock=some k→k<w.heap.size:=by
 obtain ⟨xs,h1,_⟩:=h;exact fun k hk=>(h1.lt k hk).2
theorem OwnK.ne(h:OwnK e D base w ks s){b:Nat}(hb:¬ D b):some b≠s.ownBlock:=by
 obtain ⟨xs,_,_,h3⟩:=h;exact fun he=>hb (h3 b he.symm)
theorem OwnK.grow(h:OwnK e D base w ks s)(g:G w w'):OwnK e D base w' ks s:=by
 obtain ⟨xs,h1,h2,h3⟩:=h;exact ⟨xs,Xz h1 g,h2.grow g,h3⟩
theorem OwnK.keep(h:OwnK e D base w ks s){b:Nat}(hg:w.grownBy w' (some b))(hb:¬ D b):OwnK e D base w' ks s:=by
 obtain ⟨xs,h1,h2,h3⟩:=h;refine ⟨xs,Xw h1 hg (.inr fun he=>hb (h3 b he)),h2.keep hg fun k hk _ he=>?_,h3⟩;injection he with he;exact hb (he▸hk.1)
theorem OwnK.kd(h:OwnK e D base w ks s){D':Nat→Prop}(hD:∀ b,D b→D' b):Kd w D' ks s:=by
 obtain ⟨xs,h1,h2,h3⟩:=h;exact Uof h1 rfl (h2.mono fun b hb _=>hD b hb.1) fun b hb=>hD b (h3 b hb)
theorem Qw{b:Nat}{t:Nd}{v:Value}(h:Blk w b e (ndCells t v))(hb:base≤b)(hk:Kd w (fun k=>D k∧k≠b) t.kids v)(hD:D b):OwnK e D base w [t] (.slice (some ⟨b,0,none⟩) 1 1):=by
 refine ⟨_,Zjf h hb O (by decide),Yc (hk.mono fun k hk _=>⟨hk.1,fun he=>?_⟩),fun k hk=>?_⟩;injection he with he;exact hk.2 he;injection hk with hk;exact hk▸hD
theorem OwnK.append{ls:List Nd}{news:List Value}{a':Option Addr}{c':Nat}{xs:List Value}(h:OwnK e D base w ks s)(hx:w.ownsRow base e 9 s ks.length xs)(hX:KRow w (fun b=>D b∧some b≠s.ownBlock) ks xs)
 (hn:KRow w (fun b=>D b∧some b≠s.ownBlock) ls news) (hD:D w.heap.size) (ho:w'.ownsRow base e 9 (.slice a' (ks.length+ls.length) c') (ks.length+ls.length) (xs++news)) (hg:w.grownBy w' s.ownBlock)
 (hat:(Value.slice a' (ks.length+ls.length) c').ownBlock=s.ownBlock∨(Value.slice a' (ks.length+ls.length) c').ownBlock=some w.heap.size):OwnK e D base w' (ks++ls) (.slice a' (ks++ls).length c'):=by
 have hlen:(ks++ls).length=ks.length+ls.length:=by simp
 refine ⟨xs++news,by rw [hlen];exact ho,?_,?_⟩;have h1:=Zrb hX hn;rw [hlen];refine Yua (fun b hb hlt=>⟨hb.1,?_⟩) (fun b hb hlt=>hg.block b hlt hb.2) _ _ h1;rcases hat with he|he <;> rw [he]
 exact hb.2;intro e;injection e with e;omega;rw [hlen];intro b hb;rcases hat with he|he <;> rw [he] at hb
 obtain ⟨_,_,_,h3⟩:=h;exact h3 b hb;injection hb with hb;exact hb▸hD
end
section
variable {P:Program} {Z:List PanicEntry→Act→World→Prop} {ops:List Oper} {cl:List Nat} {lv:List Bool} {W0:World} {n:Nat} {K:Act→World→Prop} {k:Nat} {rest:List Oper} {σ:List Ent} {w:World} {d:Nat} {ty:TypeId} {pos:String} {after:Array Edge}
theorem Jza{t e base q q':Nat}{x y:Operand}{s zv:Value}{news:List Value}{b' o':Nat}{D:Nat→Prop}{ks ls:List Nd}(hb:(Nat.beq (clOf cl k) 2&&Nat.blt d n)=true)(ht:tyElem P t=some (e,9,104))(hzv:zeroOf P e=some zv)
 (hzs:zv.cells.size=9) (hx:Ev n σ True x s) (hO:OwnK e D base w ks s) (hy:Ev n σ True y (.slice (some ⟨b',o',none⟩) q q')) (hq:ls.length=q) (hn:RowAt w b' o' news) (hK:KRow w (fun b=>D b∧some b≠s.ownBlock) ls news)
 (hlen:ks.length+ls.length≤10000000) (hbase:base≤w.heap.size) (hD:D w.heap.size)
 (h:∀ a' c' w',OwnK e D base w' (ks++ls) (.slice a' (ks++ls).length c')→w.grownBy w' s.ownBlock→SR P Z ops cl lv W0 n K (k+1) rest ((d,True,.slice a' (ks++ls).length c') :: σ) w') :
 SR P Z ops cl lv W0 n K k (⟨some d,.call { callee:=.builtin .append,args:=#[x,y],argTypes:=#[t,t] },ty,pos,after,none⟩::rest) σ w:=by
 obtain ⟨xs,h1,h2,h3⟩:=id hO;subst hq;have ones:=Uoc hK;refine Jc hb ht hzv hzs (by decide) hx h1 hy (Zqb hK) hn ones (by simp only [maxLen];omega) (by omega) hbase fun a' c' w' ho hg hat=>?_;have:=h a' c' w' (hO.append h1 h2 hK hD ho hg hat) hg;rwa [List.length_append] at this
end
/-! frames without their deferred calls -/
abbrev DPost:=List Deferred→Act→World→Prop
section
variable {P:Program} {ρ:Option Nat} {n:Nat} {ds:List Deferred} {N T:DPost} {X:List (Nat×DPost)} {Z:List PanicEntry→DPost} {σ:List Ent} {w:World}
end
/-! calls that may panic; rounds -/
def RP(R:Value→World→Prop)(Rp:List PanicEntry→World→Prop)(e:Ending)(w:World):Prop:=(∃ v,e = .returned v∧R v w)∨(∃ ch,e = .panicked ch∧Rp ch w)
def RetP(P:Program)(f:FuncId)(args:Array Value)(w:World)(R:Value→World→Prop)(Rp:List PanicEntry→World→Prop):Prop:=Calls P f args w (RP R Rp)
theorem RetP.mono{P:Program}{f:FuncId}{args:Array Value}{w:World}{R R':Value→World→Prop}{Rp Rp':List PanicEntry→World→Prop}(h:RetP P f args w R Rp)(hr:∀ v w',R v w'→R' v w')(hp:∀ ch w',Rp ch w'→Rp' ch w'):RetP P f args w R' Rp' :=
 Calls.mono h fun _ _ h=>h.imp (fun ⟨v,e,k⟩=>⟨v,e,hr v _ k⟩) (fun ⟨ch,e,k⟩=>⟨ch,e,hp ch _ k⟩)
theorem RetP.ret{P:Program}{f:FuncId}{args:Array Value}{w:World}{R:Value→World→Prop}{Rp:List PanicEntry→World→Prop}(h:RetP P f args w R Rp)(hp:∀ ch w',¬ Rp ch w'):Ret P f args w R :=
 Calls.mono h fun _ _ h=>h.elim id fun ⟨_,_,k⟩=>absurd k (hp _ _)
def Yld(P:Program)(l:Nat)(args:Array Value)(w:World)(R:Value→World→Prop):Prop :=
 ∃ fn tmps asg body,(Instr.yield l args).run P w = .ok (.round l fn tmps asg body) w∧RoundIn Fence.wide 0 P l fn tmps asg body w fun e w'=>∃ v,e = .returned v∧R v w'
theorem Yld.mono{P:Program}{l:Nat}{args:Array Value}{w:World}{R R':Value→World→Prop}(h:Yld P l args w R)(hr:∀ v w',R v w'→R' v w'):Yld P l args w R':=by
 obtain ⟨fn,tmps,asg,body,h1,h2⟩:=h;exact ⟨fn,tmps,asg,body,h1,RoundIn.mono h2 fun _ _ ⟨v,e,k⟩=>⟨v,e,hr v _ k⟩⟩
@[reducible] def yldV(l:Nat):Value:=.func (.yield l) #[] #[]
section
variable {P:Program} {Z:List PanicEntry→Act→World→Prop} {ops:List Oper} {cl:List Nat} {lv:List Bool} {W0:World} {n:Nat} {K:Act→World→Prop} {k:Nat} {rest:List Oper} {σ:List Ent} {w:World} {d:Nat} {op:Op} {ty:TypeId} {pos:String} {after:Array Edge} {v:Value}
end
/-! ends -/
section
variable {P:Program} {n:Nat} {fn:Func} {R:Value→World→Prop} {Rp:List PanicEntry→World→Prop} {σ:List Ent} {w:World} {ds:List Deferred}
@[reducible] def markD(db:Nat):Deferred:={ target:=.collected db,args:=#[] }
def RetB(P:Program)(f:FuncId)(args:Array Value)(w:World)(R:Value→World→Prop):Prop :=
 ∃ fn c,P.funcs[f]? = some fn∧fn.body=some c∧c.wp P (bodyPost P fn (fun e w'=>∃ v,e = .returned v∧R v w')) { tmps:=args++Array.replicate (fn.ntmps-args.size) undef,defers:=[] } w
theorem RetB.ret{P:Program}{f:FuncId}{args:Array Value}{w:World}{R:Value→World→Prop}(h:RetB P f args w R):Ret P f args w R:=by
 obtain ⟨fn,c,hf,hb,h⟩:=h;exact calls_of_wp hf hb h
theorem RetB.mono{P:Program}{f:FuncId}{args:Array Value}{w:World}{R R':Value→World→Prop}(h:RetB P f args w R)(hr:∀ v w',R v w'→R' v w'):RetB P f args w R':=by
 obtain ⟨fn,c,hf,hb,h⟩:=h;refine ⟨fn,c,hf,hb,wp_mono h fun e a w q=>?_⟩;unfold bodyPost at q ⊢
 split at q <;> first
  | (obtain ⟨q0,v,q1,v',q3,q4⟩:=q;exact ⟨q0,v,q1,v',q3,hr _ _ q4⟩)
  | (obtain ⟨q1,v',q3,q4⟩:=q;exact ⟨q1,v',q3,hr _ _ q4⟩)
  | (obtain ⟨v',q3,q4⟩:=q;exact ⟨v',q3,hr _ _ q4⟩)
  | exact q.elim
@[reducible] def fnD(f:Nat)(cs args:Array Value):Deferred:={ target:=.fn (.func f) cs,args:=args }
end
theorem RS.mono{P:Program}{Z:List PanicEntry→Act→World→Prop}{ops:Array Oper}{cl:Nat→Nat}{lv:Nat→Bool}{W0:World}{K K':Act→World→Prop}(hK:∀ a w,K a w→K' a w):∀ (L:List Nat) (a:Act) (w:World),RS P Z ops cl lv W0 K L a w→RS P Z ops cl lv W0 K' L a w
 | [],a,w,h=>hK _ _ h
 | i::rest,a,w,⟨o,ho,hb⟩=>by
  refine ⟨o,ho,?_⟩;by_cases hc:cl i=0∨cl i=3;rw [if_pos hc] at hb ⊢;obtain ⟨v,h1,h2,h3⟩:=hb;exact ⟨v,h1,h2,RS.mono hK rest _ _ h3⟩;rw [if_neg hc] at hb ⊢;by_cases hw:Region.wanted o (yielded ops a.tmps)=true;rw [if_pos hw] at hb ⊢;exact hb.turn rfl (fun _ _ h=>h) fun v w' _ hk=>RS.mono hK rest _ _ hk;rw [if_neg hw] at hb ⊢;exact RS.mono hK rest _ _ hb
/-! the operation that defers a call, last in its region -/
section
variable {P:Program} {n:Nat} {ds:List Deferred} {N T:DPost} {X:List (Nat×DPost)} {Z:List PanicEntry→DPost} {σ:List Ent} {w:World}
end
/-! what a round may write; what lies between two rounds -/
structure GB (B:Nat→Prop) (w w':World):Prop where
  os:w'.os=w.os
  tape:w'.tape=w.tape
  output:w'.output=w.output
  size:w.heap.size≤w'.heap.size
  block:∀ k,k<w.heap.size→¬ B k→w'.heap[k]? = w.heap[k]?
theorem GB.refl(B:Nat→Prop)(w:World):GB B w w:=⟨rfl,rfl,rfl,Nat.le_refl _,fun _ _ _=>rfl⟩
theorem GB.trans{B:Nat→Prop}{a b c:World}(h:GB B a b)(k:GB B b c):GB B a c :=
 ⟨k.os.trans h.os,k.tape.trans h.tape,k.output.trans h.output,Nat.le_trans h.size k.size,fun i hi hn=>(k.block i (Nat.lt_of_lt_of_le hi h.size) hn).trans (h.block i hi hn)⟩
theorem GB.mono{B B':Nat→Prop}{w w':World}(h:GB B w w')(hB:∀ k,k<w.heap.size→B k→B' k):GB B' w w':=⟨h.os,h.tape,h.output,h.size,fun k hk hn=>h.block k hk fun hb=>hn (hB k hk hb)⟩
theorem GB.of_g{B:Nat→Prop}{w w':World}(h:G w w'):GB B w w':=⟨h.os,h.tape,h.output,h.size,fun k hk _=>h.block hk⟩
theorem GB.of_only{B:Nat→Prop}{w w':World}{row:Option Nat}(h:w.grownBy w' row)(hB:∀ k,row=some k→B k):GB B w w':=⟨h.os,h.tape,h.output,h.size,fun k hk hn=>h.block k hk fun e=>hn (hB k e.symm)⟩
theorem GB.g{B:Nat→Prop}{w w':World}(h:GB B w w')(hB:∀ k,B k→w.heap.size≤k):G w w':=⟨h.os,h.tape,h.output,h.size,fun k hk=>h.block k hk fun hb=>by have:=hB k hb;omega⟩
theorem g_gb{B:Nat→Prop}{w0 w w':World}(g:G w0 w)(h:GB B w w')(hB:∀ k,B k→w0.heap.size≤k):G w0 w' :=
 ⟨h.os.trans g.os,h.tape.trans g.tape,h.output.trans g.output,Nat.le_trans g.size h.size,fun k hk=>(h.block k (Nat.lt_of_lt_of_le hk g.size) fun hb=>by have:=hB k hb;omega).trans (g.block hk)⟩
theorem Zkf{B:Nat→Prop}{w0 w w':World}{b:Nat}(h:GB B w0 w)(hg:w.grownBy w' (some b))(hb:B b∨w0.heap.size≤b):GB B w0 w' :=
 ⟨hg.os.trans h.os,hg.tape.trans h.tape,hg.output.trans h.output,Nat.le_trans h.size hg.size,fun k hk hn=>(hg.block k (Nat.lt_of_lt_of_le hk h.size) (fun e=>by
 injection e with e;subst e;rcases hb with hb|hb;exact hn hb;omega)).trans (h.block k hk hn)⟩
structure GI (n:Nat) (w w':World):Prop where
  below:Below n w w'
  cells:∀ (k:Nat) (o:Obj),w.heap[k]? = some o→o.isCells=true→w'.heap[k]? = some o
theorem GI.refl(n:Nat)(w:World):GI n w w:=⟨Below.refl _ _,fun _ _ h _=>h⟩
theorem GI.trans{n:Nat}{a b c:World}(h:GI n a b)(k:GI n b c):GI n a c:=⟨h.below.trans k.below,fun i o hi hc=>k.cells i o (h.cells i o hi hc) hc⟩
theorem GI.of_g{n:Nat}{a b:World}(h:G a b)(hn:n≤a.heap.size):GI n a b:=⟨Below.mono h hn,fun k o hk _=>(h.block (Array.getElem?_eq_some_iff.1 hk).1).trans hk⟩
theorem GI.mono{n m:Nat}{a b:World}(h:GI n a b)(hm:m≤n):GI m a b:=⟨h.below.mono hm,h.cells⟩
theorem GI.size{n:Nat}{a b:World}(h:GI n a b):a.heap.size≤b.heap.size:=h.below.size
theorem Blk.gb{w w':World}{B:Nat→Prop}{b:Nat}{e:TypeId}{l:List Value}(h:Blk w b e l)(g:GB B w w')(hb:¬ B b):Blk w' b e l:=(g.block b h.lt hb).trans h
theorem RowAt.gb{w w':World}{B:Nat→Prop}{b o:Nat}{l:List Value}(h:RowAt w b o l)(g:GB B w w')(hb:¬ B b):RowAt w' b o l:=fun j v hj=>by
 have h1:=h j v hj;have hlt:=World.block_lt_of_cell? w _ h1;exact (World.cell?_of_block (g.block b hlt hb)).trans h1
section
variable {P:Program} {n:Nat} {ds:List Deferred} {N T:DPost} {X:List (Nat×DPost)} {Z:List PanicEntry→DPost} {σ:List Ent} {w:World}
@[reducible] def NoD:DPost:=fun _ _ _=>False
@[reducible] def NoZ:List PanicEntry→DPost:=fun _ _ _ _=>False
end
theorem Jtc{P:Program}{t ty e:TypeId}{i:TypeInfo}(hu:P.underlying t=some (.slice e))(hi:P.info? e=some i){a:Option Addr}{m c q:Nat}(hmc:m≤c)(w:World) :
 (Builtin.append_ #[t,t] ty #[.slice a m c,.slice none 0 q]).run P w = .ok (.slice a m c) w:=by
 cases a <;> simp [Builtin.append_,run_underlying hu,sizeOf,typeInfo,hi,Builtin.lenOf,Builtin.firstCells,loadCells,loadCellsFrom,hmc,storeCells]
section
variable {P:Program} {Z:List PanicEntry→Act→World→Prop} {ops:List Oper} {cl:List Nat} {lv:List Bool} {W0:World} {n:Nat} {K:Act→World→Prop} {k:Nat} {rest:List Oper} {σ:List Ent} {w:World} {d:Nat} {ty:TypeId} {pos:String} {after:Array Edge}
theorem Xfd{t e z by_ m q c:Nat}{x y:Operand}{a:Option Addr}(hb:(Nat.beq (clOf cl k) 2&&Nat.blt d n)=true)(ht:tyElem P t=some (e,z,by_))(hx:Ev n σ True x (.slice a m c))(hmc:m≤c)(hy:Ev n σ True y (.slice none 0 q))
 (h:SR P Z ops cl lv W0 n K (k+1) rest ((d,True,.slice a m c) :: σ) w) :
 SR P Z ops cl lv W0 n K k (⟨some d,.call { callee:=.builtin .append,args:=#[x,y],argTypes:=#[t,t] },ty,pos,after,none⟩::rest) σ w:=by
 obtain ⟨hu,i,hi,hsz,hbyi⟩:=Uy ht;simp only [Bool.and_eq_true] at hb;have hc:=Nat.eq_of_beq_eq_true hb.1;have r1:=Jtc (ty:=ty) hu hi (a:=a) (q:=q) hmc w;refine Zzb (w':=w) (by rw [hc,hb.2];rfl) (fun d pos after g a ha _=>?_) (fun hh=>by omega) h;simp only [execOp,resolve,invoke,builtin,Sem.run_bind,Sem.run_pure,Result.andThen_ok,List.map_toArray,List.map_cons,List.map_nil,hx a ha trivial,hy a ha trivial,r1]
def RowS(w:World)(D:Nat→Prop)(ls:List Nd)(p:Option Addr):Prop:=(ls=[]→p=none)∧(ls≠[]→∃ b o xs,p=some ⟨b,o,none⟩∧RowAt w b o xs∧KRow w D ls xs)
theorem Uld(w:World)(row:Option Nat):w.grownBy w row:=⟨rfl,rfl,rfl,Nat.le_refl _,fun _ _ _=>rfl⟩
theorem Qle{t e base q':Nat}{x y:Operand}{s zv:Value}{p:Option Addr}{D:Nat→Prop}{ks ls:List Nd}(hb:(Nat.beq (clOf cl k) 2&&Nat.blt d n)=true)(ht:tyElem P t=some (e,9,104))(hzv:zeroOf P e=some zv)
 (hzs:zv.cells.size=9) (hx:Ev n σ True x s) (hO:OwnK e D base w ks s) (hE:ks=[]→s = .slice none 0 0) (hy:Ev n σ True y (.slice p ls.length q')) (hR:RowS w (fun b=>D b∧some b≠s.ownBlock) ls p)
 (hlen:ks.length+ls.length≤10000000) (hbase:base≤w.heap.size) (hD:D w.heap.size)
 (h:∀ a' c' w',OwnK e D base w' (ks++ls) (.slice a' (ks++ls).length c')→(ks++ls=[]→Value.slice a' (ks++ls).length c' = .slice none 0 0)→w.grownBy w' s.ownBlock→SR P Z ops cl lv W0 n K (k+1) rest ((d,True,.slice a' (ks++ls).length c') :: σ) w') :
 SR P Z ops cl lv W0 n K k (⟨some d,.call { callee:=.builtin .append,args:=#[x,y],argTypes:=#[t,t] },ty,pos,after,none⟩::rest) σ w:=by
 by_cases hl:ls=[];subst hl;obtain ⟨xs,h1,h2,h3⟩:=id hO;obtain ⟨a,c,rfl,hmc⟩:=Vja h1;have:=hR.1 rfl;subst this;have h':=h a c w;simp only [List.append_nil] at h';exact Xfd hb ht hx hmc hy (h' hO hE (Uld _ _));obtain ⟨b,o,xs,rfl,hr,hk⟩:=hR.2 hl;exact Jza hb ht hzv hzs hx hO hy rfl hr hk hlen hbase hD fun a' c' w' ho hg=>h a' c' w' ho (fun e=>absurd (List.append_eq_nil_iff.1 e).2 hl) hg
end
/-! maps -/
def MapB(w:World)(b:Nat)(ks:List Value):Prop:=∃ es clock,w.heap[b]? = some (.map es clock)∧es.toList.map (·.key)=ks∧∀ x∈es.toList,x.val = .bool true
section
variable {P:Program} {w w':World} {b:Nat} {ks:List Value}
theorem MapB.lt(h:MapB w b ks):b<w.heap.size:=by
 obtain ⟨es,c,hb,_⟩:=h;exact (Array.getElem?_eq_some_iff.1 hb).1
theorem MapB.grow(h:MapB w b ks)(g:G w w'):MapB w' b ks:=by
 have hl:=h.lt;obtain ⟨es,c,hb,hk⟩:=h;exact ⟨es,c,(g.block hl).trans hb,hk⟩
theorem MapB.keep(h:MapB w b ks){row:Option Nat}(hg:w.grownBy w' row)(hne:some b≠row):MapB w' b ks:=by
 have hl:=h.lt;obtain ⟨es,c,hb,hk⟩:=h;exact ⟨es,c,(hg.block b hl hne).trans hb,hk⟩
theorem MapB.gb{B:Nat→Prop}(h:MapB w b ks)(g:GB B w w')(hB:¬ B b):MapB w' b ks:=by
 have hl:=h.lt;obtain ⟨es,c,hb,hk⟩:=h;exact ⟨es,c,(g.block b hl hB).trans hb,hk⟩
theorem Qdf(w:World):MapB (w.alloc (.map #[] 0)) w.heap.size []:=⟨#[],0,(MapKept.heap_alloc w _).1,rfl,fun x hx=>by simp at hx⟩
theorem Zlf(w:World)(o:Obj):G w (w.alloc o):=⟨rfl,rfl,rfl,by simp,fun k hk=>heap_alloc_old w o hk⟩
structure KeyT (P:Program) (k:TypeId) {α:Type} [BEq α] [LawfulBEq α] (f:α→Value):Prop where
  check:∀ (w:World) (em:Bool) (a:α),(Instr.checkKey em 10000 k (f a)).run P w = .ok () w
  find:∀ (w:World) (a:α) (l:List α) (es:List MapEntry),es.map (·.key)=l.map f→∃ r,(Instr.findKey k (f a) es).run P w = .ok r w∧
    ((r=none∧a∉l)∨∃ j e,r=some (j,e.val)∧es[j]? = some e∧e.key=f a∧a∈l)
  stays:∀ (w:World) (a:α),(Instr.keyThatStays (f a) (f a)).run P w = .ok (f a) w
theorem Qme{k t e:TypeId}{α:Type}[BEq α][LawfulBEq α]{f:α→Value}(T:KeyT P k f)(ht:P.underlying t=some (.map k e)){z:TypeInfo}(hz:P.info? e=some z)(hz':z.zero=some (.bool false)){l:List α}(h:MapB w b (l.map f))(a:α) :
 (Instr.lookup t (.map (some b)) (f a) false).run P w = .ok (.bool (decide (a∈l))) w:=by
 obtain ⟨es,c,hb,hk,hv⟩:=h;obtain ⟨r,hr,hc⟩:=T.find w a l es.toList hk;have hck:=T.check w es.isEmpty a;rcases hc with ⟨rfl,hn⟩|⟨j,x,rfl,hj,_,hm⟩;simp [Instr.lookup,run_underlying ht,MapKept.run_getObj_map hb,hck,hr,zeroValue,typeInfo,hz,hz',hn];have hx:=hv x (List.mem_of_getElem? hj);simp [Instr.lookup,run_underlying ht,MapKept.run_getObj_map hb,hck,hr,hx,hm]
theorem Qne{k t e:TypeId}{α:Type}[BEq α][LawfulBEq α]{f:α→Value}(T:KeyT P k f)(ht:P.underlying t=some (.map k e)){l:List α}(h:MapB w b (l.map f))(a:α) :
 ∃ w',(Instr.mapUpdate t (.map (some b)) (f a) (.bool true)).run P w = .ok () w'∧MapB w' b ((bif decide (a∈l) then l else l++[a]).map f)∧w.grownBy w' (some b):=by
 obtain ⟨es,c,hb,hk,hv⟩:=h;obtain ⟨r,hr,hc⟩:=T.find w a l es.toList hk;have hck:=T.check w false a;have hlt:=(Array.getElem?_eq_some_iff.1 hb).1
 have hgr:∀ o:Obj,w.grownBy { w with heap:=w.heap.setIfInBounds b o } (some b):=fun o=>⟨rfl,rfl,rfl,by simp,fun i _ hi=>by
  have hi:b≠i:=fun e=>hi (by rw [e]);show (w.heap.setIfInBounds b o)[i]? = _;rw [Array.getElem?_setIfInBounds,if_neg hi]⟩
 have hsame:∀ o:Obj,(w.heap.setIfInBounds b o)[b]? = some o:=fun o=>by rw [Array.getElem?_setIfInBounds,if_pos rfl,if_pos hlt]
 rcases hc with ⟨rfl,hn⟩|⟨j,x,rfl,hj,hkey,hm⟩;refine ⟨{ w with heap:=w.heap.setIfInBounds b (.map (es.push ⟨f a,.bool true,c⟩) (c+1)) },?_,?_,hgr _⟩;simp [Instr.mapUpdate,run_underlying ht,MapKept.run_getObj_map hb,hck,hr,MapKept.run_setObj_map _ hb];rw [Yvh hn];refine ⟨_,_,hsame _,?_,fun y hy=>?_⟩;rw [Array.toList_push,List.map_append,hk];show _=(l++[a]).map f;rw [List.map_append];rfl;rw [Array.toList_push] at hy;rcases List.mem_append.1 hy with hy|hy;exact hv y hy;rw [List.mem_singleton.1 hy];have hx:=hv x (List.mem_of_getElem? hj);have hj':es[j]? = some x:=by rw [← Array.getElem?_toList];exact hj
 have hmod:(es.modify j fun e=>{ e with key:=f a,val:=.bool true })=es:=by
  apply Array.ext_getElem?;intro i;rw [Array.getElem?_modify];split;rename_i hij;subst hij;rw [hj'];cases x;simp only at hkey hx;subst hkey hx;rfl;rfl
 refine ⟨{ w with heap:=w.heap.setIfInBounds b (.map es c) },?_,?_,hgr _⟩;simp [Instr.mapUpdate,run_underlying ht,MapKept.run_getObj_map hb,hck,hr,hj',hkey,T.stays w a,MapKept.run_setObj_map _ hb,hmod];rw [Ywh hm];exact ⟨_,_,hsame _,hk,hv⟩
end
theorem Qec{q:IntKind}(a:Int):∀ (es:List MapEntry) (l:List Int) (i:Nat),es.map (·.key)=l.map (fun a=>Value.int q a)→
  (Instr.findNow (.int q) (.int q a) es i=some none∧a∉l)∨∃ j e,Instr.findNow (.int q) (.int q a) es i=some (some (i+j,e.val))∧es[j]? = some e∧e.key = .int q a∧a∈l
 | [],l,i,h=>by
  cases l with
  | nil=>exact .inl ⟨rfl,fun h=>by cases h⟩
  | cons b l=>cases h
 | e::es,l,i,h=>by
  cases l with
  | nil=>cases h
  | cons b l =>
   rw [List.map_cons,List.map_cons] at h;injection h with h1 h2;have hs:Instr.sameNow (.int q) (.int q a) e.key=some (a == b):=by rw [h1];simp [Instr.sameNow]
   by_cases hab:a=b;subst hab;refine .inr ⟨0,e,?_,rfl,h1,List.mem_cons_self⟩;rw [Instr.findNow,hs];simp;have hf:(a == b)=false:=by simpa using hab
   rw [hf] at hs;rcases Qec a es l (i+1) h2 with ⟨k1,k2⟩|⟨j,e',k1,k2,k3,k4⟩;refine .inl ⟨by rw [Instr.findNow,hs];exact k1,fun hm=>?_⟩;rcases List.mem_cons.1 hm with q|q;exact hab q;exact k2 q;refine .inr ⟨j+1,e',?_,k2,k3,List.mem_cons_of_mem _ k4⟩;rw [Instr.findNow,hs];show Instr.findNow _ _ es (i+1)=_;rw [k1,show i+1+j=i+(j+1) by omega]
theorem Wae(n:Nat)(q:IntKind)(a:Int):Instr.sameBits n (.int q a) (.int q a)=true:=by cases n <;> simp [Instr.sameBits]
theorem Qef{P:Program}{k:TypeId}{q:IntKind}(hk:P.underlying k=some (.int q)):KeyT P k (fun a:Int=>.int q a) where
 check w em a:=by
  show (Instr.checkKey em (9999+1) k (.int q a)).run P w=_;rw [Instr.checkKey];simp only [Sem.run_bind,run_underlying hk,Result.andThen_ok,Sem.run_pure]
 find w a l es h:=by
  rcases Qec (q:=q) a es l 0 h with ⟨h1,h2⟩|⟨j,e,h1,h2,h3,h4⟩;exact ⟨none,by simp [Instr.findKey,run_underlying hk,h1],.inl ⟨rfl,h2⟩⟩;exact ⟨some (j,e.val),by simp [Instr.findKey,run_underlying hk,h1],.inr ⟨j,e,rfl,h2,h3,h4⟩⟩
 stays w a:=by
  have:Instr.sameBits (9999+1) (.int q a) (.int q a)=true:=Wae _ _ _;simp [Instr.keyThatStays,this]
def capV(c:Int×Int):Value:=.agg #[.int .i64 c.1,.int .i64 c.2]
theorem Xtf{P:Program}{k:TypeId}(ht:Xfa P k=some [0,0])(a b:Int×Int)(w:World):(Op.equal k (capV a) (capV b)).run P w = .ok (decide (a=b)) w:=by
 unfold Xfa at ht;split at ht;rename_i fs hfs;split at ht;rename_i hk;have hfo:P.fieldsOf k=fs:=by simp [Program.fieldsOf,hfs]
 have k2:=run_equalIn_struct w 9999 k [.int .i64 a.1,.int .i64 a.2].toArray [.int .i64 b.1,.int .i64 b.2].toArray (by rw [hfo];exact hfs) hk.1
 have k3:=Unb 9998 fs.toList [0,0] 0 [.int .i64 a.1,.int .i64 a.2] [.int .i64 b.1,.int .i64 b.2] [] [] (decide (a=b)) ht rfl rfl (by
  simp only [eqL,if_true];congr 1;rw [Bool.eq_iff_iff];simp [Prod.ext_iff]) w
 simp only [List.nil_append] at k3;rw [hfo,k3] at k2;exact k2;cases ht;cases ht
theorem Xgd{d:TypeDesc}(hd:∀ q,d≠.int q)(hs:d≠.string)(hb:d≠.bool)(v:Value)(e:MapEntry)(es:List MapEntry)(i:Nat):Instr.findNow d v (e::es) i=none:=by
 have:Instr.sameNow d v e.key=none:=by
  unfold Instr.sameNow;split;rename_i h;exact absurd rfl (hd _);exact absurd rfl hs;exact absurd rfl hb;rfl
 rw [Instr.findNow,this]
theorem Qfc{P:Program}{k:TypeId}(ht:Xfa P k=some [0,0])(a:Int×Int)(w:World):∀ (es:List MapEntry) (l:List (Int×Int)) (i:Nat),es.map (·.key)=l.map capV→
  ∃ r,(Instr.findAsking k (capV a) es i).run P w = .ok r w∧((r=none∧a∉l)∨∃ j e,r=some (i+j,e.val)∧es[j]? = some e∧e.key=capV a∧a∈l)
 | [],l,i,h=>by
  cases l with
  | nil=>exact ⟨none,by simp [Instr.findAsking],.inl ⟨rfl,fun h=>by cases h⟩⟩
  | cons b l=>cases h
 | e::es,l,i,h=>by
  cases l with
  | nil=>cases h
  | cons b l =>
   rw [List.map_cons,List.map_cons] at h;injection h with h1 h2;have he:=Xtf ht a b w;rw [← h1] at he;by_cases hab:a=b;subst hab;refine ⟨some (i,e.val),?_,.inr ⟨0,e,rfl,rfl,h1,List.mem_cons_self⟩⟩;simp [Instr.findAsking,he];rw [Yvh hab] at he;obtain ⟨r,hr,hc⟩:=Qfc ht a w es l (i+1) h2;refine ⟨r,by simp [Instr.findAsking,he,hr],?_⟩;rcases hc with ⟨k1,k2⟩|⟨j,e',k1,k2,k3,k4⟩;refine .inl ⟨k1,fun hm=>?_⟩;rcases List.mem_cons.1 hm with q|q;exact hab q;exact k2 q;exact .inr ⟨j+1,e',by rw [k1,show i+1+j=i+(j+1) by omega],k2,k3,List.mem_cons_of_mem _ k4⟩
theorem Qff{P:Program}{k:TypeId}{fs:Array Field}(hk:P.underlying k=some (.struct fs))(ht:Xfa P k=some [0,0])(hc:∀ (w:World) (em:Bool) (a:Int×Int),(Instr.checkKey em 10000 k (capV a)).run P w = .ok () w):KeyT P k capV where
 check:=hc
 find w a l es h:=by
  cases es with
  | nil =>
   cases l with
   | nil=>exact ⟨none,by simp [Instr.findKey,run_underlying hk,Instr.findNow],.inl ⟨rfl,fun h=>by cases h⟩⟩
   | cons b l=>cases h
  | cons e es =>
   obtain ⟨r,hr,hc⟩:=Qfc ht a w (e::es) l 0 h;refine ⟨r,?_,?_⟩;have:=Xgd (d:=.struct fs) (fun q h=>by cases h) (fun h=>by cases h) (fun h=>by cases h) (capV a) e es 0;simp [Instr.findKey,run_underlying hk,this,hr];rcases hc with h|⟨j,e',k1,k2⟩;exact .inl h;exact .inr ⟨j,e',by rw [k1,Nat.zero_add],k2⟩
 stays w a:=by
  have:Instr.sameBits (9999+1) (capV a) (capV a)=true:=by simp [Instr.sameBits,capV,Wae]
  simp [Instr.keyThatStays,this]
def FnV(P:Program)(q:Int→Bool)(v:Value)(w:World):Prop:=∃ f fs cs,v = .func (.func f) fs cs∧goFn P f=true∧∀ (k:Int) (w':World),G w w'→Ret P f (fs ++ #[.int .i64 k]++cs) w' fun r w''=>r = .bool (q k)∧G w' w''
theorem FnV.grow{P:Program}{q:Int→Bool}{v:Value}{w w':World}(h:FnV P q v w)(g:G w w'):FnV P q v w':=by
 obtain ⟨f,fs,cs,rfl,h1,h2⟩:=h;exact ⟨f,fs,cs,rfl,h1,fun k w'' g'=>h2 k w'' (g.trans g')⟩
section
variable {P:Program} {Z:List PanicEntry→Act→World→Prop} {ops:List Oper} {cl:List Nat} {lv:List Bool} {W0:World} {n:Nat} {K:Act→World→Prop} {k:Nat} {rest:List Oper} {σ:List Ent} {w:World} {d:Nat} {ty:TypeId} {pos:String} {after:Array Edge}
theorem Wjg{g t:Nat}{want b:Bool}{c0:Prop}{op:Op}{v:Value}{w':World}(hb:(!Nat.beq (clOf cl k) 0 && !Nat.beq (clOf cl k) 3&&Nat.blt d n)=true)
 (hgd:((ops.toArray[g]?).bind (·.dst))=some t) (hlk:look σ t=some (c0,.bool b)) (hr:RunV P n σ (c0∧b=want) w op ty v w') (hg:G w w')
 (h:(c0∧b=want)→SR P Z ops cl lv W0 n K (k+1) rest ((d,c0∧b=want,v) :: σ) w') (h':¬ (c0∧b=want)→SR P Z ops cl lv W0 n K (k+1) rest ((d,c0∧b=want,v) :: σ) w) :
 SR P Z ops cl lv W0 n K k (⟨some d,op,ty,pos,after,some (g,want)⟩::rest) σ w:=.mk fun hl a ha=>by
 obtain ⟨h0,h1⟩:=Yfa hl;simp only [Bool.and_eq_true,Bool.not_eq_true'] at hb;rw [List.length_cons,List.range'_succ];have hw:=Xyb (op:=op) (ty:=ty) (pos:=pos) (after:=after) (want:=want) (d:=some d) hgd hlk ha;refine ⟨_,h0,?_⟩;rw [if_neg (fun he=>by rcases he with he|he <;> rw [he] at hb <;> simp at hb)]
 by_cases hh:c0∧b=want;rw [if_pos (hw.2 hh)];exact .inl ⟨v,w',hr _ _ _ _ a ha hh,fun _=>hg,h hh h1 _ (ha.put hb.2 (fun _=>rfl) (fun hn=>absurd hh hn))⟩;rw [if_neg (fun hq=>hh (hw.1 hq))];exact h' hh h1 _ (ha.put hb.2 (fun hq=>absurd hq hh) (fun _=>rfl))
theorem Xhd{g t0:Nat}{want bb:Bool}{c0:Prop}{t e z by_ m:Nat}{ps:Array (Nat×Operand)}{vs:List (Nat×Value)}{zv:Value}(l:List Value)(hb:(!Nat.beq (clOf cl k) 0 && !Nat.beq (clOf cl k) 3&&Nat.blt d n)=true)(hgd:((ops.toArray[g]?).bind (·.dst))=some t0)(hlk:look σ t0=some (c0,.bool bb))
 (ht:tyElem P t=some (e,z,by_)) (hz:zeroOf P e=some zv)
 (hx:Usa n σ (c0∧bb=want) ps vs) (hm:(Nat.ble (m*z) 16777216 && !Nat.beq (m*z) 0&&Nat.beq vs.length m)=true) (hf:Vwd z 0 vs=some l)
 (h:∀ b w1,G w w1→(c0∧bb=want→Blk w1 b e l)→SR P Z ops cl lv W0 n K (k+1) rest ((d,c0∧bb=want,.slice (some ⟨b,0,none⟩) m m) :: σ) w1) :
 SR P Z ops cl lv W0 n K k (⟨some d,.buildSlice t m ps,ty,pos,after,some (g,want)⟩::rest) σ w:=by
 obtain ⟨hu,i,hi,hsz,_⟩:=Uy ht;obtain ⟨i',hi',hz'⟩:=Wxa hz;obtain rfl:i=i':=Option.some.inj (hi.symm.trans hi');simp only [Bool.and_eq_true,Bool.not_eq_true'] at hm;have hm1:¬ (m*z>2 ^ 24):=by have:=Nat.le_of_ble_eq_true hm.1.1;omega
 have hm2:¬ (m*z=0):=by intro he;rw [he] at hm;simp at hm
 have hvl:=Nat.eq_of_beq_eq_true hm.2
 have hfill:Instr.fill (fun i=>some (i*z,z)) ((Array.range (m*z)).map (zv.cells[· % zv.cells.size]!)) vs=some l.toArray:=by
  have h1:=Yyc z vs 0 [] ((Array.range (m*z)).map (zv.cells[· % zv.cells.size]!)).toList l hf (by simp) (by simp [hvl]) (by simp);have:=Jrb _ _ _ _ h1;rwa [Array.toArray_toList] at this
 refine Wjg hb hgd hlk (w':=w.alloc (.cells l.toArray e)) (v:=.slice (some ⟨w.heap.size,0,none⟩) m m) (fun d pos after g a ha hc=>?_) (Yea w e l).g (fun hc=>h _ _ (Yea w e l).g (fun _=>(Yea w e l).blk)) (fun hc=>h _ _ (G.refl w) (fun hq=>absurd hq hc));have hx':=hx a ha hc;simp only [execOp,Instr.buildSlice,Sem.run_bind,run_underlying hu,Result.andThen_ok,sizeOf,typeInfo,run_program,hi,Sem.run_pure,hsz,if_neg hm1,if_neg hm2,zeroValue,hz'];rw [hx',hfill];simp [newRow]
end
section
variable {P:Program} {n:Nat} {σ:List Ent} {c:Prop} {wb:World} {ty:TypeId} {v:Value}
end
theorem Vtd{l:List Nd}{i:Nat}(f:Nd→Nat)(h:i<l.length):((l.take (i+1)).map f).sum=((l.take i).map f).sum+f l[i]:=by
 rw [Ytc f l i h,List.sum_append];simp
theorem Xuf:∀ (t:Nd) (v:Value) (D:Nat→Prop) (w:World),Kd w D t.kids v→count t≤4611686018427387904→Ret PP Qxd #[ndV t v] w fun r w'=>r = .int .i64 (count t:Nat)∧G w w':=by
 refine Nd.ind fun t ih v D w hk hc=>?_;obtain ⟨p,c,rfl,hcap,hks⟩:=hk;have g:=G.refl w;have hlen:=Up t;refine WK 21 [0] Yad ?_;refine BM fun _ w1 _ _ g E=>?_;refine AU ?_;refine Zfa (fun (i:Nat) u1=>(i≤t.kids.length)∧G w1 u1) [(1,True,_),(2,True,_)] (fun (i:Nat)=>[(3,True,.int .i64 ((1+((t.kids.take i).map count).sum:Nat):Int)),(4,True,.int .i64 i)]) (fun (i:Nat)=>t.kids.length-i) (0) ⟨by simp,G.refl _⟩ (Za O (Za O (Za O (Za O (Zp _))))) ?_;rintro i u1 ⟨hI1,gl1⟩;have g:=g.trans gl1;replace E:=E.grow gl1;refine Zj (Zj (Zm (Zq O (Yj Zg O (Yq Zf O (E.g0.at_ O) (Xla Zd O (Xka O O (Ze (kq (Wm O (fun h1=>?_) (fun h1=>?_)))))))))));replace h1:i<t.kids.length:=by simp only [decide_eq_true_eq] at h1;omega
 obtain ⟨b,o,rfl,hD,xs,hR,hX⟩:=hks (by omega);obtain ⟨p',c',hcell,hkid⟩:=Xjb hR hX h1;have hck:=Zsa h1;refine Ya (kq (Zj (Yv (Zm (Zq O (Yj Zg O (Yq Zf O (E.g0.at_ O) (Zq O (Zfb Zd O O (by omega) (Vf Zh O O (hcell.grow g) (Vh O (Yl Qyd Vi (aqc O aq0) O) (ih _ (List.getElem_mem h1) _ _ _ (hkid.grow g) (by omega)) (fun w18 g18=>?_))))))))))));have gl1:=gl1.trans (g18);replace E:=E.grow g18;refine AU ?_;refine SK [3,4,1,2] ?_;refine Ze (fun a ha=>?_);have e:((1+((t.kids.take i).map count).sum:Nat):Int)+(count t.kids[i]:Nat)=((1+((t.kids.take (i+1)).map count).sum:Nat):Int):=by rw [Vtd count h1];omega
 rw [e] at ha;exact ⟨i+1,ha,⟨h1,gl1⟩,by omega⟩;replace h1:i=t.kids.length:=by simp only [decide_eq_false_iff_not] at h1;omega
 refine RTN ?_;refine ⟨?_,g⟩;rw [h1,List.take_length,← Uw]
theorem Yna{α:Type}{l:List α}{i:Nat}(h:i<l.length):l.take (i+1)=l.take i++[l[i]]:=by
 rw [List.take_add_one,List.getElem?_eq_getElem h];rfl
def RetNd(t:Nd)(base:Nat)(r:Value)(w:World):Prop:=∃ p c,r=ndV t (.slice p t.kids.length c)∧Kd w (fun b=>base≤b) t.kids (.slice p t.kids.length c)
def listN(t:Nd):List Nd:=para (fun t l=>t::l.flatten) t
theorem Xra(t:Nd):listN t=t::t.kids.flatMap listN:=by rw [listN,Yca,List.flatMap_def];rfl
theorem Qza:∀ t,(listN t).length=count t:=by
 refine Nd.ind fun t ih=>?_;rw [Xra,Uw,List.length_cons,List.length_flatMap,Nat.add_comm];congr 2;exact List.map_congr_left ih
theorem Xvf:∀ (t:Nd) (x:Nd),x∈listN t→count x≤count t:=by
 refine Nd.ind fun t ih x hx=>?_;rw [Xra] at hx;rcases List.mem_cons.1 hx with rfl|hx;exact Nat.le_refl _;obtain ⟨k,hk,hx⟩:=List.mem_flatMap.1 hx;have:=ih k hk x hx;have:=Ji hk;omega
theorem Wyc{l:List Nd}{i:Nat}(h:i<l.length):(l.take (i+1)).flatMap listN=(l.take i).flatMap listN++listN l[i]:=by rw [Yna h,List.flatMap_append];simp only [List.flatMap_cons,List.flatMap_nil,List.append_nil]
theorem Upc(l:List Nd)(i:Nat):((l.take i).flatMap listN).length=((l.take i).map count).sum:=by
 rw [List.length_flatMap];congr 1;exact List.map_congr_left fun k _=>Qza k
theorem Qgf:∀ (t:Nd) (v:Value) (D:Nat→Prop) (w:World),Kd w D t.kids v→count t≤1000000→Ret PP Xbe #[ndV t v] w fun r w'=>Kd w' (fun b=>D b∨w.heap.size≤b) (listN t) r∧G w w':=by
 refine Nd.ind fun t ih v D w hk hc=>?_;obtain ⟨p,c,rfl,hcap,hks⟩:=hk;have hlen:=Up t;have hk0:Kd w (fun b=>D b∧b<w.heap.size) t.kids (.slice p t.kids.length c):=Kd.lt ⟨p,c,rfl,hcap,hks⟩;have g:=G.refl w;refine Jx (m:=23) Wyd O O [(0,True,_)] (Za O (Zp _)) ?_;refine Zj (Zm (Via O (Zc O) O ?_));intro b1 w1 N1;have l1:=N1.ge g;have g:=g.trans N1.g;have E:=(Xna _).new N1;refine Yo O (Ze (kq (Zj (Zm (Vf Zh O O E.g0.row (Wy _ O Zd Zu (pqc O pq0) O O ?_))))));intro b6 w6 N6;have l6:=N6.ge g;have g:=g.trans N6.g;replace E:=E.new N6;have x6_1:=E.ne 0 1 rfl rfl rfl;have hO:OwnK Ys (fun b=>(D b∧b<w.heap.size)∨Dx w.heap.size [b1] b) w.heap.size w6 [t] (.slice (some ⟨b6,0,none⟩) 1 1):=Qw E.g0 l6 ((hk0.grow g).mono fun k hk _=>⟨.inl hk,by omega⟩) (.inr ⟨l6,by simp;omega⟩);refine Yo O (Ze (kq (Zj (Zj (Zm (Yo O (Ze (kq (Yv (?_))))))))));replace E:=E.sel [false,true];have hnd1:=E.1;refine We (fun (x:Nat×Option Addr×Nat) u1=>match x with|⟨i,a,ca⟩=>(i≤t.kids.length∧OwnK Ys (fun b=>(D b∧b<w.heap.size)∨Dx w.heap.size [b1] b) w.heap.size u1 (t::(t.kids.take i).flatMap listN) (.slice a (t::(t.kids.take i).flatMap listN).length ca))∧G w u1) _ [(1,True,_),(2,True,_)] (fun (x:Nat×Option Addr×Nat)=>match x with|⟨i,a,ca⟩=>[(3,True,.slice a (t::(t.kids.take i).flatMap listN).length ca),(4,True,.int .i64 i)]) (fun (x:Nat×Option Addr×Nat)=>match x with|⟨i,a,ca⟩=>t.kids.length-i) ((0,some ⟨b6,0,none⟩,1)) ⟨⟨Nat.zero_le _,hO⟩,g⟩ (Zs (blkE E.g0) (Yh _)) (Za O (Za O (Za O (Za O (Zp _))))) ?_;clear E;rintro ⟨i,a,ca⟩ u1 ⟨hI1,gl1⟩ ⟨B1,_⟩;replace B1:Blk _ _ _ _:=B1;have g:=gl1;obtain ⟨hi,hO⟩:=hI1
 have E:=Zha (L:=[(b1,_,_)]) hnd1 ⟨B1,trivial⟩ rfl;refine Zj (Zj (Zm (Zq O (Yj Zg O (Yq Zf O (E.g0.at_ O) (Xla Zd O (Xka O O (Ze (kq (Wm O (fun h1=>?_) (fun h1=>?_)))))))))));replace h1:i<t.kids.length:=by simp only [decide_eq_true_eq] at h1;omega
 obtain ⟨b,o,rfl,hD,xs,hR,hX⟩:=hks (by omega);obtain ⟨p',c',hcell,hkid⟩:=Xjb hR hX h1;have hck:=Zsa h1;have hcl:=Upc t.kids i;have hu:=g.size;have hB1lt:=E.g0.lt;have hOlt:=hO.lt;refine Ya (kq (Zj (Yv (Zm (Zq O (Yj Zg O (Yq Zf O (E.g0.at_ O) (Zq O (Zfb Zd O O (by omega) (Vf Zh O O (hcell.grow g) (Xva O (Yl Xce Vi (aqc O aq0) O) (ih _ (List.getElem_mem h1) _ (fun b=>D b∧b<w.heap.size) _ (hkid.old g) (by omega)) ?_)))))))))));rintro v20 w20 ⟨⟨p2,c2,rfl,hc2,hr2⟩,g20⟩;refine ⟨fun _=>g20,?_⟩;have g:=g.trans g20;have hln:=Qza t.kids[i];have hpos:=Un t.kids[i];obtain ⟨b2,o2,rfl,hD2,ys,hR2,hX2⟩:=hr2 (by omega);replace E:=E.grow g20;have hO:=hO.grow (g20);have hOo:=hO;refine Jza O Zd Zu O (Zc O) hO (Zc O) O hR2 (hX2.mono fun k hk _=>⟨hk.elim .inl fun h=>.inr ⟨by have h:u1.heap.size≤k:=h;omega,by have h:u1.heap.size≤k:=h;simp;omega⟩,fun he=>by have:=hOlt k he.symm;have hge:=hO.ge k he.symm;rcases hk with ⟨_,h⟩|h <;> omega⟩) (by rw [List.length_cons];omega) (by have:=g.size;omega) (.inr ⟨by have:=g.size;omega,by have:=E.g0.lt;simp;omega⟩) ?_
 intro a21 c21 w21 hO hg21;replace E:=E.keep hg21 (List.forall_mem_cons.2 ⟨(hOo.ne (by rintro (h|h);exact absurd h.2 (by omega);simp [Dx] at h)),List.forall_mem_nil _⟩);have g:=Jh g hg21 (fun k hk=>hOo.ge k hk);refine Yo O (Ze (kq (Zm (Zq O (Qqa O O (by omega) (Yo O (Vc [(3,_,_),(4,_,_),(1,_,_),(2,_,_)] (Za O (Za O (Za O (Za O (Zp _))))) (Ze (fun a ha=>?_)))))))));rw [show t::(t.kids.take i).flatMap listN++listN t.kids[i]=t::(t.kids.take (i+1)).flatMap listN by rw [Wyc h1];rfl] at ha hO;exact ⟨(i+1,a21,c21),ha,⟨⟨h1,hO⟩,g⟩,(Zs (blkE E.g0) (Yh _)),by show t.kids.length-(i+1)<t.kids.length-i;omega⟩;replace h1:i=t.kids.length:=by simp only [decide_eq_false_iff_not] at h1;omega
 subst h1;rw [List.take_length,← Xra] at hO;refine Qs O (kq (Zj (Zm (Zq O (Yo O (Ze (kq (Xd (Vy O O ?_)))))))));refine ⟨?_,g⟩;rw [List.take_length,← Xra];exact hO.kd fun b hb=>hb.elim (fun h=>.inl h.1) (fun h=>.inr h.1)
def typK(k:Int):Bool:=anyK [7,8] k
def expK(k:Int):Bool:=anyK [28,29,30,31,32,33,35,36,37,27,34,24,25,26,38] k
def stK(k:Int):Bool:=anyK [6,10,11,12,13,14,15,16,17,21,18,19,20,22] k
def memK(l:List Int)(k:Int):Bool:=decide (k∈l)
def typeNames:List (List UInt8):=[[105,110,116],[98,111,111,108],[91,93,105,110,116],[99,104,97,110],[102,117,110,99],[109,117,116,101,120],[114,119,109,117,116,101,120],[103,114,111,117,112],[111,110,99,101],[97,116,111,109,105,99]]
def typeNameB(s:List UInt8):Bool:=anyS typeNames s
theorem Wbe(s:List UInt8)(w:World):Ret PP Qpc #[Str s] w fun v w'=>v = .bool (typeNameB s)∧G w w':=by
 have g:=G.refl w;refine WK 15 [0] Whc ?_;refine AU ?_;refine' OR [2] (fun hb1=>?y1) (kq ?n1)
 case y1 =>
  refine AU ?_;refine' OR [2] (fun hb2=>?y2) knr
  case y2 =>
   refine AU ?_;refine' OR [2] (fun hb3=>?y3) knr
   case y3 =>
    refine AU ?_;refine' OR [2] (fun hb4=>?y4) knr
    case y4 =>
     refine AU ?_;refine' OR [2] (fun hb5=>?y5) knr
     case y5 =>
      refine AU ?_;refine' OR [2] (fun hb6=>?y6) knr
      case y6 =>
       refine AU ?_;refine' OR [2] (fun hb7=>?y7) knr
       case y7 =>
        refine AU ?_;refine' OR [2] (fun hb8=>?y8) knr
        case y8 =>
         refine AU ?_;refine' OR [2] (fun hb9=>?y9) knr
         case y9 =>
          refine AU ?_;refine SK [4,2] ?_;exact Ze knr
 case n1 =>
  refine IF (fun h10=>?_) fun h10=>?_;(try simp only [bsimp] at h10);refine RTN ?_;refine ⟨Yxh ?_,g⟩;simp only [typeNameB,anyS,typeNames];exact (h10).symm;refine RTN ?_;refine ⟨Yxh ?_,g⟩;simp only [typeNameB,anyS,typeNames];exact (h10).symm
def leafB(t:Nd):Bool:=decide ((t.kids.length:Int)=0)
def isTypeB(t:Nd):Bool:=bif decide (t.kind=8) then nameB t.text&&leafB t else bif decide (t.kind=7) then typeNameB t.text&&leafB t else false
theorem Jwb(t:Nd)(p:Option Addr)(c:Nat)(w:World):Ret PP Vad #[ndV t (.slice p t.kids.length c)] w fun v w'=>v = .bool (isTypeB t)∧G w w':=by
 have g:=G.refl w;refine WK 27 [0] Qnc ?_;refine BM fun _ _ _ _ g E=>?_;refine IF (fun h1=>?_) fun h1=>?_;(try simp only [bsimp] at h1);refine AU ?_;refine CP (Vwa _ _) (fun w9 g9=>?_);have g:=g.trans g9;replace E:=E.grow g9;refine RTN ?_;refine ⟨Yxh ?_,g⟩;unfold isTypeB;simp only [h1,cond_true,cond_false] <;> rfl
 refine IF (fun h2=>?_) fun h2=>?_;(try simp only [bsimp] at h2);refine AU ?_;refine CP (Wbe _ _) (fun w20 g20=>?_);have g:=g.trans g20;replace E:=E.grow g20;refine RTN ?_;refine ⟨Yxh ?_,g⟩;unfold isTypeB;simp only [h1,h2,cond_true,cond_false] <;> rfl
 refine RTN ?_;refine ⟨Yxh ?_,g⟩;unfold isTypeB;simp only [h1,h2,cond_true,cond_false] <;> rfl
def binOps:List (List UInt8):=[[124,124],[38,38],[61,61],[33,61],[60],[60,61],[62],[62,61],[43],[45],[42],[47],[37]]
theorem Qhf(s:List UInt8)(w:World):Ret PP Qxc #[Str s] w fun v w'=>v = .bool (anyS binOps s)∧G w w':=by
 have g:=G.refl w;refine WK 18 [0] Wlc ?_;refine AU ?_;refine' OR [2] (fun hb1=>?y1) (kq ?n1)
 case y1 =>
  refine AU ?_;refine' OR [2] (fun hb2=>?y2) knr
  case y2 =>
   refine AU ?_;refine' OR [2] (fun hb3=>?y3) knr
   case y3 =>
    refine AU ?_;refine' OR [2] (fun hb4=>?y4) knr
    case y4 =>
     refine AU ?_;refine' OR [2] (fun hb5=>?y5) knr
     case y5 =>
      refine AU ?_;refine' OR [2] (fun hb6=>?y6) knr
      case y6 =>
       refine AU ?_;refine' OR [2] (fun hb7=>?y7) knr
       case y7 =>
        refine AU ?_;refine' OR [2] (fun hb8=>?y8) knr
        case y8 =>
         refine AU ?_;refine' OR [2] (fun hb9=>?y9) knr
         case y9 =>
          refine AU ?_;refine' OR [2] (fun hb10=>?y10) knr
          case y10 =>
           refine AU ?_;refine' OR [2] (fun hb11=>?y11) knr
           case y11 =>
            refine AU ?_;refine' OR [2] (fun hb12=>?y12) knr
            case y12 =>
             refine AU ?_;refine SK [4,2] ?_;exact Ze knr
 case n1 =>
  refine IF (fun h13=>?_) fun h13=>?_;(try simp only [bsimp] at h13);refine RTN ?_;refine ⟨Yxh ?_,g⟩;simp only [anyS,binOps];exact (h13).symm;refine RTN ?_;refine ⟨Yxh ?_,g⟩;simp only [anyS,binOps];exact (h13).symm
def Zb(t:Nd)(i:Nat):Nd:=t.kids.getD i nd0
theorem Wg{t:Nd}{i:Nat}(h:i<t.kids.length):Zb t i=t.kids[i]:=by simp [Zb,List.getD_eq_getElem?_getD,List.getElem?_eq_getElem h]
def kidsB(t:Nd)(qs:List (Int→Bool)):Bool:=decide (t.kids.length=qs.length)&&(List.range qs.length).all fun i=>(qs.getD i (fun _=>false)) (Zb t i).kind
def everyB(t:Nd)(q:Int→Bool):Bool:=t.kids.all fun k=>q k.kind
def Umd(t:Nd):Bool:=bif anyK [9,16] t.kind then true
 else bif anyK [13,11] t.kind then decide (((t.kids.length:Int)-1)=0)&&decide ((Zb t 0).kind=33)
 else bif decide (t.kind=12) then decide (((t.kids.length:Int)-1)=1)&&decide ((Zb t 1).kind=33) else false
theorem Yk{w:World}{D:Nat→Prop}{t:Nd}{p:Option Addr}{c:Nat}(hk:Kd w D t.kids (.slice p t.kids.length c)){i:Nat}(h:i<t.kids.length):p=some ⟨pb p,po p,none⟩∧∃ p' c',RowAt w (pb p) (po p+i*9) (ndCells (Zb t i) (.slice p' (Zb t i).kids.length c'))∧Kd w D (Zb t i).kids (.slice p' (Zb t i).kids.length c'):=by
 obtain ⟨p',c',hpe,_,hks⟩:=hk;injection hpe with hpe _ hce;subst hpe hce;obtain ⟨b2,o2,rfl,hD,xs,hR2,hX⟩:=hks (by omega);refine ⟨rfl,?_⟩;rw [Wg h];exact Xjb hR2 hX h
def textB'(t:Nd):Bool:=bif anyK [2,3,4,6,11,28,27,34,8] t.kind then nameB t.text
 else bif decide (t.kind=31) then decide (t.text=[45]) || decide (t.text=[33])
 else bif decide (t.kind=32) then anyS binOps t.text
 else bif decide (t.kind=7) then typeNameB t.text
 else decide (t.text=[])
def TyR(M:Nat→Bool)(w:World)(k:Nat):Prop:=∃ cs e fr,w.heap[k]? = some (.cells cs e fr)∧M e=true
structure GT (M:Nat→Bool) (n0:Nat) (w w':World):Prop where
  os:w'.os=w.os
  tape:w'.tape=w.tape
  output:w'.output=w.output
  size:w.heap.size≤w'.heap.size
  block:∀ k,k<w.heap.size→(k<n0∨¬ TyR M w k)→w'.heap[k]? = w.heap[k]?
section
variable {M:Nat→Bool} {n0:Nat}
theorem GT.refl(M:Nat→Bool)(n0:Nat)(w:World):GT M n0 w w:=⟨rfl,rfl,rfl,Nat.le_refl _,fun _ _ _=>rfl⟩
theorem GT.trans{u v w:World}(h:GT M n0 u v)(k:GT M n0 v w):GT M n0 u w :=
 ⟨k.os.trans h.os,k.tape.trans h.tape,k.output.trans h.output,Nat.le_trans h.size k.size,fun i hi hb=>by
 have e:=h.block i hi hb;refine (k.block i (Nat.lt_of_lt_of_le hi h.size) (hb.imp id fun hb hr=>hb ?_)).trans e;obtain ⟨cs,f,fr,hr,hm⟩:=hr;exact ⟨cs,f,fr,e.symm.trans hr,hm⟩⟩
theorem GT.of_g{w w':World}(h:G w w'):GT M n0 w w':=⟨h.os,h.tape,h.output,h.size,fun k hk _=>h.block hk⟩
theorem gtd{a w:World}(g:GT M n0 a w):GT M n0 a w.drew:=g.trans (GT.of_g (G.drew _))
theorem gtg{a w w':World}(g:GT M n0 a w)(h:G w w'):GT M n0 a w':=g.trans (GT.of_g h)
theorem GT.mono{n1:Nat}{w w':World}(h:GT M n1 w w')(hn:n0≤n1):GT M n0 w w':=⟨h.os,h.tape,h.output,h.size,fun k hk hb=>h.block k hk (hb.imp (fun hb=>Nat.lt_of_lt_of_le hb hn) id)⟩
theorem GT.below{w w':World}(h:GT M n0 w w')(hn:n0≤w.heap.size):Go.RowKit.Below n0 w w':=⟨h.os,h.tape,h.output,h.size,fun k hk=>h.block k (by omega) (.inl hk)⟩
theorem Juc{w0 w w':World}(g:G w0 w)(h:GT M n0 w w')(hn:w0.heap.size≤n0):G w0 w' :=
 ⟨h.os.trans g.os,h.tape.trans g.tape,h.output.trans g.output,Nat.le_trans g.size h.size,fun k hk=>(h.block k (Nat.lt_of_lt_of_le hk g.size) (.inl (by omega))).trans (g.block hk)⟩
theorem Ww{w0 w w':World}{row:Option Nat}(h:GT M n0 w0 w)(hg:w.grownBy w' row)(hr:∀ k,row=some k→w0.heap.size≤k):GT M n0 w0 w' :=
 ⟨hg.os.trans h.os,hg.tape.trans h.tape,hg.output.trans h.output,Nat.le_trans h.size hg.size,fun k hk hb=>(hg.block k (Nat.lt_of_lt_of_le hk h.size) (fun e=>by have:=hr k e.symm;omega)).trans (h.block k hk hb)⟩
theorem Wo{w0 w w':World}{j:Nat}(h:GT M n0 w0 w)(hg:w.grownBy w' (some j))(hj:w0.heap.size≤j):GT M n0 w0 w' :=
 Ww h hg fun k hk=>by injection hk with hk;omega
theorem Qif{w0 w w':World}{row:Option Nat}(h:GT M n0 w0 w)(hg:w.grownBy w' row)(hr:∀ k,row=some k→n0≤k∧TyR M w k):GT M n0 w0 w' :=
 ⟨hg.os.trans h.os,hg.tape.trans h.tape,hg.output.trans h.output,Nat.le_trans h.size hg.size,fun k hk hb=>(hg.block k (Nat.lt_of_lt_of_le hk h.size) (fun e=>by
 obtain ⟨h1,h2⟩:=hr k e.symm;rcases hb with hb|hb;omega;obtain ⟨cs,f,fr,h3,h4⟩:=h2;exact hb ⟨cs,f,fr,(h.block k hk (.inr hb)).symm.trans h3,h4⟩)).trans (h.block k hk hb)⟩
theorem Zmf{w:World}{b:Nat}{e:TypeId}{l:List Value}(h:Blk w b e l)(he:M e=true):TyR M w b:=⟨_,_,_,h,he⟩
theorem Wce{w:World}{b:Nat}{e:TypeId}{l:List Value}(h:Blk w b e l)(he:M e=false):¬ TyR M w b:=fun ⟨cs,f,fr,hr,hm⟩=>by
 unfold Blk at h;rw [h] at hr;injection hr with hr;injection hr with _ hr;subst hr;rw [he] at hm;cases hm
theorem Jxb{w:World}{e:TypeId}{z m:Nat}{v:Value}{xs:List Value}(h:w.ownsRow n0 e z v m xs)(he:M e=true):∀ k,v.ownBlock=some k→n0≤k∧TyR M w k:=fun k hk=>by
 rcases h.2 with ⟨h1,_⟩|⟨g,cap,cur,h1,h2,h3,_⟩;rw [h1] at hk;cases hk;rw [h1] at hk;have:g=k:=by injection hk
 subst this;exact ⟨h2,_,_,_,h3,he⟩
theorem Wu{w0 w w':World}{b:Nat}{e:TypeId}{l:List Value}(h:GT M n0 w0 w)(hg:w.grownBy w' (some b))(hB:Blk w b e l)(he:M e=true)(hb:n0≤b):GT M n0 w0 w' :=
 Qif h hg fun k hk=>by injection hk with hk;subst hk;exact ⟨hb,Zmf hB he⟩
theorem Qjf{w0 w w':World}{e:TypeId}{z m:Nat}{v:Value}{xs:List Value}(h:GT M n0 w0 w)(hO:w.ownsRow n0 e z v m xs)(he:M e=true)(hg:w.grownBy w' v.ownBlock):GT M n0 w0 w' :=
 Qif h hg (Jxb hO he)
theorem Blk.gt{j:Nat}{w w':World}{e:TypeId}{l:List Value}(h:Blk w j e l)(g:GT M n0 w w')(he:M e=false):Blk w' j e l :=
 (g.block j h.lt (.inr (Wce h he))).trans h
theorem Obk.gt{w w':World}{L:List (Nat×TypeId×List Value)}(E:Obk w L)(g:GT M n0 w w')(ht:(L.all fun x=>!M x.2.1)=true):Obk w' L :=
 ⟨E.1,Uma E.2 fun b e l hm h=>h.gt g (by simpa using List.all_eq_true.1 ht _ hm)⟩
theorem Kd.gt{w w':World}{D:Nat→Prop}{ks:List Nd}{v:Value}(h:Kd w D ks v)(g:GT M n0 w w')(hD:∀ k,D k→k<n0):Kd w' D ks v :=
 Zma h (fun _ h _=>h) fun k hk hlt=>g.block k hlt (.inl (hD k hk))
theorem RowAt.gt{j o:Nat}{w w':World}{l:List Value}(h:RowAt w j o l)(g:GT M n0 w w')(hj:j<n0):RowAt w' j o l:=fun i v hi=>by
 have h1:=h i v hi;exact (World.cell?_of_block (g.block j (World.block_lt_of_cell? w _ h1) (.inl hj))).trans h1
/-! blocks of nodes -/
def NdR(w:World)(k:Nat):Prop:=∃ cs fr,w.heap[k]? = some (.cells cs Ys fr)
theorem NdR.lt{w:World}{k:Nat}(h:NdR w k):k<w.heap.size:=by
 obtain ⟨cs,fr,h⟩:=h;exact (Array.getElem?_eq_some_iff.1 h).1
theorem Xa{w:World}{b:Nat}{l:List Value}(h:Blk w b Ys l):NdR w b:=⟨_,_,h⟩
theorem NdR.same{w w':World}{k:Nat}(h:NdR w k)(e:w'.heap[k]? = w.heap[k]?):NdR w' k:=by
 obtain ⟨cs,fr,h⟩:=h;exact ⟨cs,fr,e.trans h⟩
theorem NdR.ntyr{w:World}{k:Nat}(h:NdR w k)(he:M Ys=false):¬ TyR M w k:=fun ⟨cs,f,fr,hr,hm⟩=>by
 obtain ⟨cs',fr',h⟩:=h;rw [h] at hr;injection hr with hr;injection hr with _ hr;subst hr;rw [he] at hm;cases hm
theorem NdR.gt{w w':World}{k:Nat}(h:NdR w k)(g:GT M n0 w w')(he:M Ys=false):NdR w' k:=h.same (g.block k h.lt (.inr (h.ntyr he)))
theorem NdR.grow{w w':World}{k:Nat}(h:NdR w k)(g:G w w'):NdR w' k:=h.same (g.block h.lt)
def KdN(lo:Nat)(w:World)(ks:List Nd)(v:Value):Prop:=Kd w (fun k=>lo≤k∧NdR w k) ks v
theorem KdN.gt{lo:Nat}{w w':World}{ks:List Nd}{v:Value}(h:KdN lo w ks v)(g:GT M n0 w w')(he:M Ys=false):KdN lo w' ks v :=
 Zma h (fun k hk _=>⟨hk.1,hk.2.gt g he⟩) fun k hk hlt=>g.block k hlt (.inr (hk.2.ntyr he))
theorem KdN.grow{lo:Nat}{w w':World}{ks:List Nd}{v:Value}(h:KdN lo w ks v)(g:G w w'):KdN lo w' ks v :=
 Zma h (fun k hk _=>⟨hk.1,hk.2.grow g⟩) fun k hk hlt=>g.block hlt
theorem KdN.keep{lo:Nat}{w w':World}{row:Option Nat}{ks:List Nd}{v:Value}(h:KdN lo w ks v)(hg:w.grownBy w' row)(hr:∀ k,row=some k→k<lo):KdN lo w' ks v :=
 Zma h (fun k hk hlt=>⟨hk.1,hk.2.same (hg.block k hlt fun e=>by have:=hr k e.symm;omega)⟩) fun k hk hlt=>hg.block k hlt fun e=>by have:=hr k e.symm;omega
theorem KdN.low{lo lo':Nat}{w:World}{ks:List Nd}{v:Value}(h:KdN lo w ks v)(hl:lo'≤lo):KdN lo' w ks v:=Kd.mono h fun k hk _=>⟨by omega,hk.2⟩
theorem Wv(lo:Nat)(w:World):KdN lo w [] (.slice none 0 0):=Jya _ _
def RetN(t:Nd)(lo:Nat)(r:Value)(w:World):Prop:=∃ p c,r=ndV t (.slice p t.kids.length c)∧KdN lo w t.kids (.slice p t.kids.length c)
theorem Jyb(t:Nd)(lo:Nat)(w:World)(h:t.kids=[]):RetN t lo (ndV t (.slice none 0 0)) w:=⟨none,0,by rw [h];rfl,by rw [h];exact Wv _ _⟩
theorem Znf{t:Nd}{lo:Nat}{v:Value}{w:World}(h:KdN lo w t.kids v):RetN t lo (ndV t v) w:=by
 obtain ⟨p,c,rfl,h2⟩:=h;exact ⟨p,c,rfl,p,c,rfl,h2⟩
def OwnN(X:List Nat)(lo:Nat)(w:World)(ks:List Nd)(s:Value):Prop:=OwnK Ys (fun b=>Dx lo X b∧NdR w b) lo w ks s
section
variable {X:List Nat} {lo:Nat} {w w':World} {ks:List Nd} {s:Value}
theorem Wma(X:List Nat)(lo:Nat)(w:World):OwnN X lo w [] (.slice none 0 0):=Wxc _ _ _ _
theorem OwnN.slice(h:OwnN X lo w ks s):∃ a c,s = .slice a ks.length c:=OwnK.slice h
theorem OwnN.ge(h:OwnN X lo w ks s):∀ k,s.ownBlock=some k→lo≤k:=OwnK.ge h
theorem OwnN.lt(h:OwnN X lo w ks s):∀ k,s.ownBlock=some k→k<w.heap.size:=OwnK.lt h
theorem OwnN.ne(h:OwnN X lo w ks s){b:Nat}(hb:b∈X):some b≠s.ownBlock:=OwnK.ne h fun hd=>hd.1.2 hb
theorem OwnN.nd(h:OwnN X lo w ks s):∀ k,s.ownBlock=some k→NdR w k:=fun k hk=>by
 obtain ⟨xs,_,_,h3⟩:=h;exact (h3 k hk).2
theorem Xlb{e:TypeId}{D D':Nat→Prop}{base:Nat}(h:OwnK e D base w ks s)(hD:∀ b,D b→b<w.heap.size→D' b)(hs:∀ b,D b→b<w.heap.size→w'.heap[b]? = w.heap[b]?)(ho:∀ xs,w.ownsRow base e 9 s ks.length xs→w'.ownsRow base e 9 s ks.length xs):OwnK e D' base w' ks s:=by
 obtain ⟨xs,h1,h2,h3⟩:=h;exact ⟨xs,ho xs h1,Yua (fun b hb hlt=>⟨hD b hb.1 hlt,hb.2⟩) (fun b hb hlt=>hs b hb.1 hlt) _ _ h2,fun b hb=>hD b (h3 b hb) (h1.lt b hb).2⟩
theorem OwnN.grow(h:OwnN X lo w ks s)(g:G w w'):OwnN X lo w' ks s :=
 Xlb h (fun b hb _=>⟨hb.1,hb.2.grow g⟩) (fun b _ hlt=>g.block hlt) fun xs h=>Xz h g
theorem Qkf{e:TypeId}{base z m:Nat}{v:Value}{xs:List Value}(h:w.ownsRow base e z v m xs)(hs:∀ b,v.ownBlock=some b→w'.heap[b]? = w.heap[b]?):w'.ownsRow base e z v m xs:=by
 refine ⟨h.1,?_⟩;rcases h.2 with h1|⟨g,cap,cur,h1,h2,h3,h4⟩;exact .inl h1;exact .inr ⟨g,cap,cur,h1,h2,(hs g (by rw [h1];rfl)).trans h3,h4⟩
theorem OwnN.gt(h:OwnN X lo w ks s)(g:GT M n0 w w')(he:M Ys=false):OwnN X lo w' ks s:=by
 have hn:=h.nd;have hl:=h.lt;exact Xlb h (fun b hb _=>⟨hb.1,hb.2.gt g he⟩) (fun b hb hlt=>g.block b hlt (.inr (hb.2.ntyr he))) fun xs h=>Qkf h fun b hb=>g.block b (hl b hb) (.inr ((hn b hb).ntyr he))
theorem OwnN.keep(h:OwnN X lo w ks s){b:Nat}(hg:w.grownBy w' (some b))(hb:b∈X):OwnN X lo w' ks s:=by
 have hne:=h.ne hb;refine Xlb h (fun k hk hlt=>⟨hk.1,hk.2.same (hg.block k hlt fun e=>by injection e with e;exact hk.1.2 (e▸hb))⟩) (fun k hk hlt=>hg.block k hlt fun e=>by injection e with e;exact hk.1.2 (e▸hb)) fun xs h=>Xw h hg (.inr fun e=>hne e.symm)
theorem OwnN.kd(h:OwnN X lo w ks s):KdN lo w ks s:=OwnK.kd h fun b hb=>⟨hb.1.1,hb.2⟩
end
end
section
variable {P:Program} {Z:List PanicEntry→Act→World→Prop} {ops:List Oper} {cl:List Nat} {lv:List Bool} {W0:World} {n:Nat} {K:Act→World→Prop} {k:Nat} {rest:List Oper} {σ:List Ent} {w:World} {d:Nat} {ty:TypeId} {pos:String} {after:Array Edge}
theorem Xx{t q q':Nat}{x y:Operand}{s zv:Value}{news:List Value}{b' o' lo:Nat}{X:List Nat}{ks ls:List Nd}(hb:(Nat.beq (clOf cl k) 2&&Nat.blt d n)=true)(ht:tyElem P t=some (Ys,9,104))(hzv:zeroOf P Ys=some zv)
 (hzs:zv.cells.size=9) (hx:Ev n σ True x s) (hO:OwnN X lo w ks s) (hy:Ev n σ True y (.slice (some ⟨b',o',none⟩) q q')) (hq:ls.length=q) (hn:RowAt w b' o' news) (hK:KRow w (fun b=>(Dx lo X b∧NdR w b)∧some b≠s.ownBlock) ls news)
 (hlen:ks.length+ls.length≤10000000) (hbase:lo≤w.heap.size) (hD:Dx lo X w.heap.size)
 (h:∀ a' c' w',OwnN X lo w' (ks++ls) (.slice a' (ks++ls).length c')→w.grownBy w' s.ownBlock→SR P Z ops cl lv W0 n K (k+1) rest ((d,True,.slice a' (ks++ls).length c') :: σ) w') :
 SR P Z ops cl lv W0 n K k (⟨some d,.call { callee:=.builtin .append,args:=#[x,y],argTypes:=#[t,t] },ty,pos,after,none⟩::rest) σ w:=by
 obtain ⟨xs,h1,h2,h3⟩:=id hO;subst hq;have ones:=Uoc hK;refine Jc hb ht hzv hzs (by decide) hx h1 hy (Zqb hK) hn ones (by simp only [maxLen];omega) (by omega) hbase fun a' c' w' ho hg hat=>?_;have hlen':(ks++ls).length=ks.length+ls.length:=by simp
 have hnd:∀ b,(Value.slice a' (ks.length+ls.length) c').ownBlock=some b→NdR w' b:=fun b hb=>by
  rcases ho.2 with ⟨q1,_⟩|⟨g,cap,cur,q1,_,q3,_⟩;rw [q1] at hb;cases hb;rw [q1] at hb;have:g=b:=by injection hb
  subst this;exact ⟨_,_,q3⟩
 have hO':OwnN X lo w' (ks++ls) (.slice a' (ks++ls).length c'):=by
  refine ⟨xs++news,by rw [hlen'];exact ho,?_,?_⟩;rw [hlen'];refine Yua (fun b hb hlt=>⟨⟨hb.1.1,hb.1.2.same (hg.block b hlt hb.2)⟩,?_⟩) (fun b hb hlt=>hg.block b hlt hb.2) _ _ (Zrb h2 hK);rcases hat with he|he <;> rw [he]
  exact hb.2;intro e;injection e with e;omega;rw [hlen'];intro b hb;refine ⟨?_,hnd b hb⟩;rcases hat with he|he <;> rw [he] at hb
  exact (h3 b hb).1;injection hb with hb;exact hb▸hD
 have:=h a' c' w' hO' hg;rwa [List.length_append] at this
end
end Go.Rk
