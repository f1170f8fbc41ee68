/- Texts. Conditions: each its own. -/
import Derived.Test.YtmpfjifhkmdbaaaGreatDoorJ01
import Derived.Shelf.LaysC
import Derived.Shelf.Strconv.ParseIntPublic10
import Derived.KernelRfl
set_option linter.unusedSimpArgs false
set_option linter.unusedVariables false
set_option maxHeartbeats 16000000
set_option maxRecDepth 100000
open Bool renaming and_eq_true_iff→AA,not_true→Cj,not_false→Cq,or_false→Dr,and_eq_true→Du,or_eq_false_iff→EY,or_eq_true→Gm,true_and→GN,and_eq_false_iff→Hv
open Go renaming World→Ae,TypeId→AD,PanicEntry→Bf,Operand→Bl,Program→AJ,Value→Aj
open Go.Result renaming andThen_ok→CY
open Go.Value renaming slice→Fs
open List renaming getElem?_eq_getElem→A2,getD_eq_getElem?_getD→CC,length_append→DQ,length_cons→D4,any_cons→Ei,any_nil→Eo,flatMap_cons→Ez,forall_mem_cons→E0,getElem_mem→E8,all_eq_true→E6,take_length→FI,mem_cons_self→F3,length_drop→Gc,getElem_of_mem→Gq,length_take→GZ,append_nil→Ha,sum_append→Hp,take_add_one→Ht,forall_mem_nil→IH,drop_of_length_le→IM,drop_eq_getElem_cons→Ju,mem_cons_of_mem→Jz,take_succ_cons→Kh,find?_eq_some_iff_getElem→Lo,find?_eq_none→Kp,length_eq_zero_iff→Kn,mem_drop_iff_getElem→Kv,take_of_length_le→L3,length_flatMap→LX,map_congr_left→LR,flatMap_append→LN
open Nat renaming beq→Ao,le_refl→Bu,blt→CR,zero_le→CW,add_comm→Ip,not_lt_zero→Iz,eq_of_beq_eq_true→KJ
open Decidable renaming decide→Ac
namespace Go.Proofs
end Go.Proofs
namespace Go.Rk
open Go.Proofs
open Go Go.RowKit
 class Eb (s j:Nat) (o:outParam Nat):Prop where h:EA An s j=some o
 class FU (t:Nat):Prop where h:GK An t=true
 class JL (t:Nat) (z:outParam Nat):Prop where h:I0 An t=some z
 class Dd (t:Nat) (z:outParam Nat):Prop where h:Im An t=some z
 class D9 (t:Nat) (z:outParam Aj):Prop where h:Gh An t=some z
 class Ss (t:Nat):Prop where h:Kd An t=true
 class Wq (t:Nat) (z:outParam (List Nat)):Prop where h:PO An t=some z
 class gW (t:Nat):Prop where h:An.underlying t=some .bool
 class KU (t:Nat) (z:outParam (List (Nat×Nat))):Prop where h:Ll An t=some z
 class Jt (t:Nat) (e z b:outParam Nat):Prop where h:Gf An t=some (e,z,b)
instance:Eb 24 0 0:=⟨Rd⟩
instance:Eb 24 1 1:=⟨VC⟩
instance:Eb 26 0 0:=⟨FP⟩
instance:Eb 26 1 1:=⟨E2⟩
instance:Eb 26 2 2:=⟨Ku⟩
instance:Eb 26 3 3:=⟨H7⟩
instance:Eb 26 4 4:=⟨AY⟩
instance:Eb 26 5 5:=⟨Fg⟩
instance:Eb 26 6 7:=⟨OE⟩
instance:Eb 26 7 8:=⟨T8⟩
instance:Eb 48 0 0:=⟨gU⟩
instance:Eb 48 1 1:=⟨iG⟩
instance:Eb 59 0 0:=⟨X1⟩
instance:Eb 59 1 9:=⟨Uy⟩
instance:Eb 59 2 10:=⟨Vw⟩
instance:Eb 59 3 11:=⟨iV⟩
instance:Eb 59 4 12:=⟨Rb⟩
instance:Eb 59 5 13:=⟨JK⟩
instance:Eb 59 6 14:=⟨Tk⟩
instance:Eb 59 7 15:=⟨O7⟩
instance:Eb 61 0 0:=⟨fD⟩
instance:Eb 61 1 1:=⟨UD⟩
instance:Eb 61 2 2:=⟨TS⟩
instance:Eb 67 0 0:=⟨OC⟩
instance:Eb 67 1 9:=⟨LI⟩
instance:Eb 67 2 10:=⟨XU⟩
instance:Eb 67 3 11:=⟨R6⟩
instance:Eb 67 4 12:=⟨QD⟩
instance:Eb 67 5 13:=⟨fR⟩
instance:Eb 67 6 15:=⟨Th⟩
instance:Eb 67 7 16:=⟨Rq⟩
instance:Eb 75 0 0:=⟨Ag⟩
instance:Eb 75 1 1:=⟨Ag⟩
instance:Eb 75 2 2:=⟨Ag⟩
instance:Eb 75 3 3:=⟨Ag⟩
instance:Eb 84 0 0:=⟨jR⟩
instance:Eb 84 1 1:=⟨aP⟩
instance:Eb 84 2 3:=⟨cZ⟩
instance:Eb 84 3 4:=⟨X9⟩
instance:Eb 94 0 0:=⟨Ag⟩
instance:Eb 94 1 1:=⟨Ag⟩
instance:Eb 94 2 2:=⟨Ag⟩
instance:Eb 96 0 0:=⟨eJ⟩
instance:Eb 96 1 1:=⟨ZR⟩
instance:Eb 96 2 3:=⟨kB⟩
instance:Eb 96 3 4:=⟨jL⟩
instance:Eb 96 4 5:=⟨Vn⟩
instance:Eb 127 0 0:=⟨Nc⟩
instance:Eb 127 1 1:=⟨Ib⟩
instance:Eb 127 2 2:=⟨PU⟩
instance:Eb 127 3 3:=⟨XK⟩
instance:Eb 134 0 0:=⟨Xd⟩
instance:Eb 134 1 1:=⟨XP⟩
instance:Eb 162 0 0:=⟨Ag⟩
instance:Eb 162 1 1:=⟨Ag⟩
instance:Eb 162 2 2:=⟨Ag⟩
instance:FU 1:=⟨Ag⟩
instance:FU 2:=⟨Ag⟩
instance:FU 3:=⟨Cb⟩
instance:FU 4:=⟨Ag⟩
instance:FU 5:=⟨Ag⟩
instance:FU 9:=⟨DW⟩
instance:FU 20:=⟨Ag⟩
instance:FU 22:=⟨Bh⟩
instance:FU 30:=⟨NI⟩
instance:FU 50:=⟨Ag⟩
instance:FU 51:=⟨TU⟩
instance:FU 52:=⟨VW⟩
instance:FU 53:=⟨gJ⟩
instance:FU 54:=⟨Sj⟩
instance:FU 55:=⟨Kg⟩
instance:FU 56:=⟨Ol⟩
instance:FU 57:=⟨Nm⟩
instance:FU 64:=⟨Ag⟩
instance:FU 65:=⟨Md⟩
instance:FU 70:=⟨O9⟩
instance:FU 73:=⟨Ag⟩
instance:FU 79:=⟨Ag⟩
instance:FU 82:=⟨Pn⟩
instance:FU 102:=⟨Ag⟩
instance:FU 103:=⟨UQ⟩
instance:FU 109:=⟨Ag⟩
instance:FU 115:=⟨Ag⟩
instance:FU 120:=⟨Ag⟩
instance:FU 123:=⟨Ag⟩
instance:FU 130:=⟨Ag⟩
instance:FU 146:=⟨Ag⟩
instance:FU 152:=⟨Ag⟩
instance:FU 156:=⟨Ag⟩
instance:FU 160:=⟨Ag⟩
instance:FU 164:=⟨Ag⟩
instance:JL 24 2:=⟨Cf⟩
instance:JL 26 9:=⟨A3⟩
instance:JL 48 2:=⟨Ag⟩
instance:JL 59 16:=⟨Ag⟩
instance:JL 61 4:=⟨aF⟩
instance:JL 67 17:=⟨YB⟩
instance:JL 75 4:=⟨Ag⟩
instance:JL 84 5:=⟨S4⟩
instance:JL 94 3:=⟨dD⟩
instance:JL 96 6:=⟨X8⟩
instance:JL 108 13:=⟨hJ⟩
instance:JL 127 4:=⟨Ag⟩
instance:JL 134 3:=⟨Ag⟩
instance:JL 149 27:=⟨Yl⟩
instance:JL 162 3:=⟨Ag⟩
instance:Dd 1 1:=⟨Ag⟩
instance:Dd 2 1:=⟨Ag⟩
instance:Dd 3 1:=⟨I2⟩
instance:Dd 4 1:=⟨Ag⟩
instance:Dd 5 1:=⟨Ag⟩
instance:Dd 9 1:=⟨Ag⟩
instance:Dd 20 1:=⟨Ag⟩
instance:Dd 22 1:=⟨Me⟩
instance:Dd 24 2:=⟨ET⟩
instance:Dd 26 9:=⟨Fm⟩
instance:Dd 30 1:=⟨SL⟩
instance:Dd 48 2:=⟨Ag⟩
instance:Dd 50 1:=⟨Ag⟩
instance:Dd 51 1:=⟨Ag⟩
instance:Dd 52 1:=⟨Ag⟩
instance:Dd 53 1:=⟨Ag⟩
instance:Dd 54 1:=⟨Ag⟩
instance:Dd 55 1:=⟨QA⟩
instance:Dd 56 1:=⟨Pp⟩
instance:Dd 57 1:=⟨Oy⟩
instance:Dd 59 16:=⟨Ag⟩
instance:Dd 61 4:=⟨Tt⟩
instance:Dd 64 1:=⟨Ag⟩
instance:Dd 65 1:=⟨Sz⟩
instance:Dd 67 17:=⟨jA⟩
instance:Dd 70 1:=⟨UO⟩
instance:Dd 73 1:=⟨Ag⟩
instance:Dd 75 4:=⟨Ag⟩
instance:Dd 79 1:=⟨Ag⟩
instance:Dd 82 1:=⟨Y4⟩
instance:Dd 84 5:=⟨Ag⟩
instance:Dd 94 3:=⟨Ag⟩
instance:Dd 96 6:=⟨Ag⟩
instance:Dd 102 1:=⟨Ag⟩
instance:Dd 103 1:=⟨Ag⟩
instance:Dd 108 13:=⟨Ag⟩
instance:Dd 109 1:=⟨Ag⟩
instance:Dd 115 1:=⟨Ag⟩
instance:Dd 120 1:=⟨Ag⟩
instance:Dd 123 1:=⟨Ag⟩
instance:Dd 127 4:=⟨Ag⟩
instance:Dd 130 1:=⟨Ag⟩
instance:Dd 134 3:=⟨Ag⟩
instance:Dd 146 1:=⟨Ag⟩
instance:Dd 149 27:=⟨Ag⟩
instance:Dd 152 1:=⟨Ag⟩
instance:Dd 156 1:=⟨Ag⟩
instance:Dd 160 1:=⟨Ag⟩
instance:Dd 162 3:=⟨Ag⟩
instance:Dd 164 1:=⟨Ag⟩
instance:D9 1 (.nilFunc):=⟨Ag⟩
instance:D9 2 (.int .i64 0):=⟨Ag⟩
instance:D9 3 (.int .i64 0):=⟨MP⟩
instance:D9 4 (.bool false):=⟨Wc⟩
instance:D9 5 (.int .u8 0):=⟨Ag⟩
instance:D9 9 (.string ⟨#[]⟩):=⟨Ag⟩
instance:D9 20 (.nilIface):=⟨Ag⟩
instance:D9 22 (.slice none 0 0):=⟨Ag⟩
instance:D9 24 (.agg #[.int .i64 0,.string ⟨#[]⟩]):=⟨FF⟩
instance:D9 26 (.agg #[.int .i64 0,.string ⟨#[]⟩,.int .i64 0,.int .i64 0,.slice none 0 0,.int .i64 0,.string ⟨#[]⟩,.int .i64 0,.int .i64 0]):=⟨Cp⟩
instance:D9 30 (.int .i64 0):=⟨jS⟩
instance:D9 48 (.agg #[.int .i64 0,.int .i64 0]):=⟨jG⟩
instance:D9 50 (.pointer none):=⟨Ag⟩
instance:D9 51 (.map none):=⟨Ag⟩
instance:D9 52 (.map none):=⟨Ag⟩
instance:D9 53 (.map none):=⟨Ag⟩
instance:D9 54 (.map none):=⟨Ag⟩
instance:D9 55 (.slice none 0 0):=⟨Ag⟩
instance:D9 56 (.slice none 0 0):=⟨Ag⟩
instance:D9 57 (.slice none 0 0):=⟨Ag⟩
instance:D9 59 (.agg #[.int .i64 0,.string ⟨#[]⟩,.int .i64 0,.int .i64 0,.slice none 0 0,.int .i64 0,.string ⟨#[]⟩,.int .i64 0,.int .i64 0,.map none,.map none,.map none,.map none,.slice none 0 0,.slice none 0 0,.slice none 0 0]):=⟨aZ⟩
instance:D9 61 (.agg #[.int .i64 0,.slice none 0 0,.int .i64 0,.string ⟨#[]⟩]):=⟨Pg⟩
instance:D9 64 (.pointer none):=⟨Ag⟩
instance:D9 65 (.slice none 0 0):=⟨Ag⟩
instance:D9 67 (.agg #[.int .i64 0,.string ⟨#[]⟩,.int .i64 0,.int .i64 0,.slice none 0 0,.int .i64 0,.string ⟨#[]⟩,.int .i64 0,.int .i64 0,.slice none 0 0,.int .i64 0,.int .i64 0,.slice none 0 0,.int .i64 0,.string ⟨#[]⟩,.int .i64 0,.int .i64 0]):=⟨fV⟩
instance:D9 70 (.slice none 0 0):=⟨Ag⟩
instance:D9 73 (.pointer none):=⟨Ag⟩
instance:D9 75 (.agg #[.slice none 0 0,.int .i64 0,.int .i64 0,.bool false]):=⟨Ag⟩
instance:D9 79 (.nilFunc):=⟨Ag⟩
instance:D9 82 (.slice none 0 0):=⟨WR⟩
instance:D9 84 (.agg #[.string ⟨#[]⟩,.int .i64 0,.string ⟨#[]⟩,.int .i64 0,.int .i64 0]):=⟨Rs⟩
instance:D9 94 (.agg #[.int .i64 0,.string ⟨#[]⟩,.int .i64 0]):=⟨Oj⟩
instance:D9 96 (.agg #[.string ⟨#[]⟩,.int .i64 0,.string ⟨#[]⟩,.int .i64 0,.int .i64 0,.int .i64 0]):=⟨Td⟩
instance:D9 102 (.nilFunc):=⟨Ag⟩
instance:D9 103 (.nilFunc):=⟨eQ⟩
instance:D9 108 (.agg #[.string ⟨#[]⟩,.string ⟨#[]⟩,.string ⟨#[]⟩,.string ⟨#[]⟩,.string ⟨#[]⟩,.string ⟨#[]⟩,.string ⟨#[]⟩,.string ⟨#[]⟩,.string ⟨#[]⟩,.string ⟨#[]⟩,.string ⟨#[]⟩,.string ⟨#[]⟩,.string ⟨#[]⟩]):=⟨Ag⟩
instance:D9 109 (.nilFunc):=⟨Ag⟩
instance:D9 115 (.slice none 0 0):=⟨Ag⟩
instance:D9 120 (.int .u64 0):=⟨Ag⟩
instance:D9 123 (.pointer none):=⟨Ag⟩
instance:D9 127 (.agg #[.string ⟨#[]⟩,.int .i64 0,.slice none 0 0,.slice none 0 0]):=⟨Ag⟩
instance:D9 130 (.slice none 0 0):=⟨Ag⟩
instance:D9 134 (.agg #[.string ⟨#[]⟩,.int .i64 0,.string ⟨#[]⟩]):=⟨PK⟩
instance:D9 146 (.nilIface):=⟨Ag⟩
instance:D9 149 (.agg #[.string ⟨#[]⟩,.string ⟨#[]⟩,.string ⟨#[]⟩,.string ⟨#[]⟩,.string ⟨#[]⟩,.string ⟨#[]⟩,.string ⟨#[]⟩,.string ⟨#[]⟩,.string ⟨#[]⟩,.string ⟨#[]⟩,.string ⟨#[]⟩,.string ⟨#[]⟩,.string ⟨#[]⟩,.string ⟨#[]⟩,.string ⟨#[]⟩,.string ⟨#[]⟩,.string ⟨#[]⟩,.string ⟨#[]⟩,.string ⟨#[]⟩,.string ⟨#[]⟩,.string ⟨#[]⟩,.string ⟨#[]⟩,.string ⟨#[]⟩,.string ⟨#[]⟩,.string ⟨#[]⟩,.string ⟨#[]⟩,.string ⟨#[]⟩]):=⟨Ag⟩
instance:D9 152 (.int .i64 0):=⟨Ag⟩
instance:D9 156 (.pointer none):=⟨Ag⟩
instance:D9 160 (.slice none 0 0):=⟨Ag⟩
instance:D9 162 (.agg #[.string ⟨#[]⟩,.string ⟨#[]⟩,.nilIface]):=⟨Ag⟩
instance:D9 164 (.pointer none):=⟨Ag⟩
instance:Jt 22 26 9 104:=⟨AC⟩
instance:Jt 55 82 1 24:=⟨Kl⟩
instance:Jt 56 3 1 8:=⟨Jm⟩
instance:Jt 57 24 2 24:=⟨Jb⟩
instance:Jt 65 96 6 64:=⟨Lq⟩
instance:Jt 70 94 3 32:=⟨MG⟩
instance:Jt 82 84 5 56:=⟨OH⟩
instance:Jt 115 103 1 8:=⟨Ub⟩
instance:Jt 130 134 3 40:=⟨QF⟩
instance:Jt 160 5 1 1:=⟨Ag⟩
instance:Ss 9:=⟨JW⟩
instance:Wq 24 [0,1]:=⟨Iv⟩
instance:gW 4:=⟨Z8⟩
instance:KU 24 [(0,1),(1,1)]:=⟨Ia⟩
instance:KU 26 [(0,1),(1,1),(2,1),(3,1),(4,1),(5,2),(7,1),(8,1)]:=⟨MV⟩
instance:KU 48 [(0,1),(1,1)]:=⟨Yy⟩
instance:KU 59 [(0,9),(9,1),(10,1),(11,1),(12,1),(13,1),(14,1),(15,1)]:=⟨bE⟩
instance:KU 61 [(0,1),(1,1),(2,2)]:=⟨Xg⟩
instance:KU 67 [(0,9),(9,1),(10,1),(11,1),(12,1),(13,2),(15,1),(16,1)]:=⟨Ag⟩
instance:KU 75 [(0,1),(1,1),(2,1),(3,1)]:=⟨Ag⟩
instance:KU 84 [(0,1),(1,2),(3,1),(4,1)]:=⟨Vx⟩
instance:KU 94 [(0,1),(1,1),(2,1)]:=⟨UM⟩
instance:KU 96 [(0,1),(1,2),(3,1),(4,1),(5,1)]:=⟨dF⟩
instance:KU 127 [(0,1),(1,1),(2,1),(3,1)]:=⟨Ag⟩
instance:KU 134 [(0,1),(1,2)]:=⟨Ve⟩
instance:KU 162 [(0,1),(1,1),(2,1)]:=⟨Ag⟩
theorem AO{Z:List Bf→Act→Ae→Prop}{ops:List Oper}{cl:List Nat}{lv:List Bool}{W0:Ae}{n:Nat}{K:Act→Ae→Prop}{k:Nat}{rest:List Oper}{σ:List Ce}{w:Ae}{d:Nat}{ty:AD}{pos:String}{after:Array Edge}{f:FuncId}{xs:List Bl}{vs:List Aj}{ats:Array AD}{R:Aj→Ae→Prop}(hC:Bz An f vs.toArray w R)
  (h:∀ v w',R v w'→(Bw cl k=1→G w w')∧BK An Z ops cl lv W0 n K (k+1) rest ((d,True,v) :: σ) w') (hx:Kq n σ True xs vs:=by repeat first|exact CI|refine Cn rfl ?_)
  (hb:(!Ao (Bw cl k) 0 && !Ao (Bw cl k) 3&&CR d n)=true:=by exact rfl) (hf:CD An f=true:=by kernel_rfl) :
  BK An Z ops cl lv W0 n K k (⟨some d,.call { callee:=.value (.func f),args:=xs.toArray,argTypes:=ats },ty,pos,after,none⟩::rest) σ w:=EB hb (BF hf BX hx BR) hC h
theorem A4{p A B q:Prop}(h:A→B→q)(k:(A→B→q)→p:=by exact fun h=>⟨(by first|exact Fa|exact fun _=>ga),(by first|exact h (g.trans ga) (E.gt ga rfl)|exact h (BZ g ga) (E.A ga)|exact h (g.trans ga) (E.A ga))⟩):p:=k h
theorem Ew{p:Prop}(h:p:=by first
  | exact Ab rfl
  | exact Bd
  | exact Ah rfl id
  | exact Ah rfl (fun h=>h.1)
  | exact IV
  | exact BX
  | exact Ah rfl (fun h=>h.1.1)):p:=h
theorem Vk{p:Prop}(h:p:=by first
  | exact E.J.y rfl
  | exact E.U.y rfl
  | exact E.g2.y rfl
  | exact E.g3.y rfl
  | exact E.g4.y rfl
  | exact E.g5.y rfl
  | exact E.g6.y rfl
  | exact E.g7.y rfl
  | exact E.g8.y rfl
  | exact E.g9.y rfl
  | exact E.g10.y rfl
  | exact E.g11.y rfl
  | exact E.g12.y rfl
  | exact h.B.y rfl
  | exact hB.y rfl
  | exact (hs.A g).B.y rfl
  | exact hcell.one (i:=0) rfl
  | exact hcell.one (i:=1) rfl
  | exact hcell.one (i:=2) rfl
  | exact hcell.one (i:=3) rfl
  | exact hcell.one (i:=4) rfl
  | exact hcell.one (i:=5) rfl
  | exact hcell.one (i:=6) rfl
  | exact hcell.one (i:=7) rfl
  | exact hcell.one (i:=8) rfl
  | exact by assumption):p:=h
theorem U6{p:Prop}(h:p:=by first
  | exact E.J.row
  | exact E.U.row
  | exact E.g2.row
  | exact E.g3.row
  | exact E.g4.row
  | exact E.g5.row
  | exact E.g6.row
  | exact E.g7.row
  | exact E.g8.row
  | exact E.g9.row
  | exact E.g10.row
  | exact E.g11.row
  | exact E.g12.row
  | exact hcell
  | exact hcell.A g
  | exact by assumption
  | exact h.B.row.part 13 2
  | exact hcell.part 5 2
  | exact E.J.row.part 5 2
  | exact E.U.row.part 5 2
  | exact E.g2.row.part 5 2
  | exact E.g3.row.part 5 2
  | exact E.g4.row.part 5 2
  | exact E.g5.row.part 5 2
  | exact E.g6.row.part 5 2
  | exact E.g7.row.part 5 2
  | exact E.g8.row.part 5 2
  | exact E.g9.row.part 5 2
  | exact E.g10.row.part 5 2
  | exact E.g11.row.part 5 2
  | exact E.g12.row.part 5 2):p:=h
theorem W5{p:Prop}(h:p:=by first
  | (apply J1;exact Ew)
  | (apply AB;exact Eb.h;exact Ew)
  | (apply Fj;exact Ew)
  | (apply Gk;exact Ew;exact Ew)
  | (apply Et;exact Ew;exact Ew)
  | (apply FR;exact Ew;exact Ew)
  | (apply IA;exact Ew;exact Ew)
  | (apply PD;exact Ew)
  | (apply FZ;exact Ew)
  | (apply Lp;exact Jt.h;exact Ew)
  | (apply OB;exact Ew;exact Ew)
  | (apply Rv;exact Ss.h;exact Ew)
  | (apply Gr;exact Ew;exact rfl)
  | (apply VB;exact Ew;exact Ew)
  | (apply Q5;exact Ew;exact Ew)
  | (apply QV;exact Ew;exact Ew)
  | (apply Q8;exact Ew;exact Ew)
  | (apply CS;exact Jt.h;exact Ew;exact Ew;exact (fun _=>O);exact fun _=>hpe)
  | (apply Uo;exact Ew;exact Ew;exact (fun _=>O))
  | (apply Jy;exact Ew;exact Ew;exact (fun _=>O))
  | (apply I9;exact Wq.h;exact Ew;exact Ew;exact rfl)
  | (apply R4;exact Ew;exact Ew)
  | (apply Aat;exact gW.h;exact Ew;exact Ew)
  | (apply OA;exact Ss.h;exact Ew;exact Ew;exact (fun _=>O))
  | (apply Xk;exact Wq.h;exact Ew;exact Ew;exact rfl)
  | (apply Qw;exact Ss.h;exact Ew;exact Ew;exact Ew;exact (fun _=>O))
  | (apply Xx;exact Ss.h;exact Ew;exact Ew;exact (fun _=>O))
  | (apply KQ;exact Jt.h;exact Ew;exact Ew;exact (fun _=>O))):p:=h
theorem yP{p:Prop}(h:p:=by first
  | (apply AZ;exact FU.h;exact Ew;exact fun _=>Vk)
  | (apply A8;exact JL.h;exact Ew;rotate_left;exact fun _=>U6;exact rfl)):p:=h
def Np(σ:List Ce):List Nat→Option (List Ce)
 | []=>some []
 | k::ks=>match Ex σ k with
  | none=>none
  | some (c,v)=>match Np σ ks with
   | none=>none
   | some τ=>some ((k,c,v) :: τ)
theorem Pt{σ:List Ce}:∀ {ks:List Nat} {τ:List Ce},Np σ ks=some τ→H0 τ σ
 | [],τ,h=>by injection h with h;subst h;exact M3 _
 | k::ks,τ,h=>by
  unfold Np at h;split at h;cases h;rename_i c v hl;split at h;cases h;rename_i τ' hk;injection h with h;subst h;exact Hr hl (Pt hk)
section
variable {P:AJ} {Z:List Bf→Act→Ae→Prop} {ops:List Oper} {cl:List Nat} {lv:List Bool} {W0:Ae} {n:Nat} {K:Act→Ae→Prop} {k:Nat} {rest:List Oper} {σ τ:List Ce} {w:Ae} {d:Nat} {op:Op} {ty:AD} {pos:String} {after:Array Edge} {v:Aj} {N T:Act→Ae→Prop} {X:List (Nat×(Act→Ae→Prop))}
theorem Ci(ks:List Nat)(h:BK P Z ops cl lv W0 n K k rest τ w)(hk:Np σ ks=some τ:=by exact rfl):BK P Z ops cl lv W0 n K k rest σ w:=EV τ (Pt hk) h
theorem G0{B:List Bf→Ae→Prop}{f:FuncId}{x1 x2:Bl}{HW v2:Aj}{ats:Array AD}{R:Aj→Ae→Prop}{Rp:List Bf→Ae→Prop}(hb:(!Ao (Bw cl k) 0 && !Ao (Bw cl k) 3&&CR d n)=true)(hf:CD P f=true)(h1:FD σ x1=some (True,HW))(h2:FD σ x2=some (True,v2))(hC:Gg P f #[HW,v2] w R Rp)(hz:∀ ch w',Rp ch w'→B ch w')
  (h:∀ v w',R v w'→(Bw cl k=1→G w w')∧BK P (LD B) ops cl lv W0 n K (k+1) rest ((d,True,v) :: σ) w'):BK P (LD B) ops cl lv W0 n K k (⟨some d,.call { callee:=.value (.func f),args:=#[x1,x2],argTypes:=ats },ty,pos,after,none⟩::rest) σ w:=Qe hb (BF hf BX (Cn h1 (Cn h2 CI)) rfl) hC hz h
theorem EL{B:List Bf→Ae→Prop}{f:FuncId}{x1 x2 x3:Bl}{HW v2 v3:Aj}{ats:Array AD}{R:Aj→Ae→Prop}{Rp:List Bf→Ae→Prop}(hb:(!Ao (Bw cl k) 0 && !Ao (Bw cl k) 3&&CR d n)=true)(hf:CD P f=true)(h1:FD σ x1=some (True,HW))(h2:FD σ x2=some (True,v2))(h3:FD σ x3=some (True,v3))(hC:Gg P f #[HW,v2,v3] w R Rp)(hz:∀ ch w',Rp ch w'→B ch w')
  (h:∀ v w',R v w'→(Bw cl k=1→G w w')∧BK P (LD B) ops cl lv W0 n K (k+1) rest ((d,True,v) :: σ) w'):BK P (LD B) ops cl lv W0 n K k (⟨some d,.call { callee:=.value (.func f),args:=#[x1,x2,x3],argTypes:=ats },ty,pos,after,none⟩::rest) σ w:=Qe hb (BF hf BX (Cn h1 (Cn h2 (Cn h3 CI))) rfl) hC hz h
theorem fU{ρ:Option Nat}{ds:List Deferred}{N T:Fw}{X:List (Nat×Fw)}{Z:List Bf→Fw}{c:Code}(ks:List Nat)(h:Hw P ρ n ds c N X T Z τ w)(hk:Np σ ks=some τ:=by exact rfl):Hw P ρ n ds c N X T Z σ w:=Nl τ (Pt hk) h
theorem CL{w w':Ae}{b j:Nat}{e:AD}{l:List Aj}(h:Ax w b e l)(hg:w.grownBy w' (some j))(k:b≠j:=by first|assumption|exact fun e=>(by assumption:j≠b) e.symm|omega):Ax w' b e l:=h.C hg fun q=>k (by injection q)
theorem WN{B0:List Bf→Ae→Prop}{c:Code}(ks:List Nat)(h:EN P B0 n c N X T τ w)(hk:Np σ ks=some τ:=by exact rfl):EN P B0 n c N X T σ w:=Vd τ (Pt hk) h
theorem A1{B0:List Bf→Ae→Prop}{t:Nat}{g:Bool}{y:Code}{b0:Bool}(ks:List Nat)(hy:g=false→EN P B0 n y (fun a w'=>Cl n ((t,True,.bool b0) :: τ) a∧w'=w) X T σ w)(hN:∀ a,Cl n ((t,True,.bool (g || b0)) :: τ) a→N a w)(hk:Np σ (t::ks)=some ((t,True,.bool g) :: τ):=by exact rfl)(hx:Ex σ t=some (True,.bool g):=by exact rfl) :
  EN P B0 n (.cond (.tmp t) .skip y) N X T σ w:=R3 τ (Pt hk) hx hy hN
theorem Dt{cl ms:List Nat}{row:H8}{m:Nat}{L:List Nat}(ks:List Nat)(h:Hu P Z ops cl ms row n K m L τ w)(hk:Np σ ks=some τ:=by exact rfl):Hu P Z ops cl ms row n K m L σ w:=Ke τ (Pt hk) h
theorem Cu{f:FuncId}{fn:Func}{c:Code}{args:List Aj}{R:Aj→Ae→Prop}(m:Nat)(ks:List Nat)(hf:P.funcs[f]? = some fn)(h:Se P m c (fun a w=>bodyPost P fn (fun e w'=>∃ v,e = .returned v∧R v w') .normal a w) [] (fun a w=>bodyPost P fn (fun e w'=>∃ v,e = .returned v∧R v w') .ret a w) τ w)
  (hb:fn.body=some c:=by exact rfl) (hm:args.length+(fn.ntmps-args.length)=m:=by exact rfl) (hk:Np (JJ 0 args) ks=some τ:=by exact rfl):Bz P f args.toArray w R:=JB hf hb hm τ (Pt hk) h
theorem DI{f:FuncId}{xs:List Bl}{vs:List Aj}{ats:Array AD}(hC:Bz P f vs.toArray w fun u w'=>u=v∧G w w')(h:∀ w',G w w'→BK P Z ops cl lv W0 n K (k+1) rest ((d,True,v) :: σ) w')(hx:Kq n σ True xs vs:=by repeat first|exact CI|refine Cn rfl ?_)
  (hb:(!Ao (Bw cl k) 0 && !Ao (Bw cl k) 3&&CR d n)=true:=by exact rfl) (hf:CD P f=true:=by kernel_rfl):BK P Z ops cl lv W0 n K k (⟨some d,.call { callee:=.value (.func f),args:=xs.toArray,argTypes:=ats },ty,pos,after,none⟩::rest) σ w:=F0 hb (BF hf BX hx BR) hC h
theorem GA{f:FuncId}{xs:List Bl}{vs:List Aj}{ats:Array AD}{g t:Nat}{want b:Bool}{c0:Prop}(hC:c0∧b=want→Bz P f vs.toArray w fun u w'=>u=v∧G w w')(h:∀ w',G w w'→BK P Z ops cl lv W0 n K (k+1) rest ((d,c0∧b=want,v) :: σ) w')(hgd:((ops.toArray[g]?).bind (·.dst))=some t:=by exact rfl)(hlk:Ex σ t=some (c0,.bool b):=by exact rfl)
  (hx:Kq n σ (c0∧b=want) xs vs:=by repeat first|exact DC|refine CM Ew ?_)
  (hb:(!Ao (Bw cl k) 0 && !Ao (Bw cl k) 3&&CR d n)=true:=by exact rfl) (hf:CD P f=true:=by kernel_rfl):BK P Z ops cl lv W0 n K k (⟨some d,.call { callee:=.value (.func f),args:=xs.toArray,argTypes:=ats },ty,pos,after,some (g,want)⟩::rest) σ w:=Ff hb hgd hlk (fun _=>BF hf BX hx BR) hC h
end
section
variable {P:AJ} {Z:List Bf→Act→Ae→Prop} {ops:List Oper} {cl:List Nat} {lv:List Bool} {W0:Ae} {n:Nat} {K:Act→Ae→Prop} {k:Nat} {rest:List Oper} {σ τ:List Ce} {w:Ae} {d:Nat} {op:Op} {ty:AD} {pos:String} {after:Array Edge} {v:Aj} {N T:Act→Ae→Prop} {X:List (Nat×(Act→Ae→Prop))} {x y:Bl} {t u:AD}
theorem Afj{c:Code}{B:List Bf→Ae→Prop}(h:EN P B n c N X T σ w):EN P B n c N X T σ w:=h
theorem mV{l:List Oper}(h:BK P Z ops cl lv W0 n K k l σ w):BK P Z ops cl lv W0 n K k l σ w:=h
theorem tQ(h:BK P Z ops cl lv W0 n K k (⟨some d,.load t x,ty,pos,after,none⟩::rest) σ w):BK P Z ops cl lv W0 n K k (⟨some d,.load t x,ty,pos,after,none⟩::rest) σ w:=h
theorem xU{g:Nat×Bool}(h:BK P Z ops cl lv W0 n K k (⟨some d,op,ty,pos,after,some g⟩::rest) σ w):BK P Z ops cl lv W0 n K k (⟨some d,op,ty,pos,after,some g⟩::rest) σ w:=h
theorem mQ{b:BinOp}(h:BK P Z ops cl lv W0 n K k (⟨some d,.binOp b t x y u,ty,pos,after,none⟩::rest) σ w):BK P Z ops cl lv W0 n K k (⟨some d,.binOp b t x y u,ty,pos,after,none⟩::rest) σ w:=h
theorem Ade(hb:Ao (Bw cl k) 3=true)(h:BK P Z ops cl lv W0 n K k (⟨some d,op,ty,pos,after,none⟩::rest) σ w):BK P Z ops cl lv W0 n K k (⟨some d,op,ty,pos,after,none⟩::rest) σ w:=h
end
structure TL (q:Prop):Prop where h:q
theorem Ad{p q:Prop}(h:q)(k:TL q→p:=by
 intro h0
 repeat first
  | (refine Afj ?_;first|(refine Am ?_;try refine Au ?_)|refine Au ?_|refine CJ (Al ?_)|refine DF ?_|refine L7 rfl (Al ?_))
  | (refine mV ?_;first|(refine Ai ?_;refine Al ?_)|(refine tQ ?_;first|refine Ct JL.h rfl rfl U6 ?_|refine AM FU.h rfl Vk ?_)|(refine xU ?_;first|(refine' Ay rfl rfl rfl ?_ ?_;rotate_left;exact fun _=>W5)|(refine' BQ rfl rfl rfl ?_ ?_;rotate_left;exact yP))|(refine mQ ?_;first|refine MD rfl rfl ?_|refine Fy rfl rfl ?_|refine H2 rfl rfl O ?_|refine MH rfl rfl ?_|refine GG rfl rfl ?_|refine SI rfl rfl ?_|refine Nz rfl rfl ?_|(refine' AR rfl ?_ ?_;rotate_left;exact fun _=>W5))|(refine Ade rfl ?_;first|refine Ap rfl ?_|refine Bj rfl ?_|refine AE Eb.h rfl ?_|refine C1 rfl ?_|refine Sd rfl ?_|refine EI Jt.h rfl ?_|refine Dk Jt.h rfl rfl O (by first|exact hpe|assumption) ?_|refine FJ rfl rfl ?_|(refine' AR rfl ?_ ?_;rotate_left;exact fun _=>W5)|refine Hg D9.h KU.h (by first|exact CH|exact Bk rfl CH|repeat first|exact CH|refine Bk rfl ?_) rfl rfl ?_))
  | (refine FW ?_;refine Al ?_)
 exact h0.h):p:=k ⟨h⟩
theorem Aw{p A B C D:Prop}(hT:A→B)(hF:C→D)(k:(A→B)→(C→D)→p:=by intro hT hF;refine Ad ?_;exact Cv rfl hT hF):p:=k hT hF
theorem fN{p:Prop}(h:p:=by repeat first|exact GD|(apply Ij;exact rfl)|(apply GJ;exact rfl;exact JL.h;rotate_left;exact U6;rotate_right;exact rfl)|(apply Oh;exact rfl;exact FU.h;exact Vk)):p:=h
theorem AN{p q:Prop}(h:q)(k:TL q→p:=by intro h;refine Ad ?_;refine Dl ?_;first|exact Fp rfl rfl h.h|exact LJ rfl fN h.h|exact IZ rfl rfl fN rfl h.h|exact fI rfl h.h):p:=k ⟨h⟩
theorem ER{p A:Prop}(h:A)(k:TL A→p:=by intro z;refine AS fun _ _ _ g E=>?_;refine AN ?_;exact ⟨z.h,g⟩):p:=k ⟨h⟩
theorem Cz{p B:Prop}{R A L H q:Go.World→Prop}(h:∀ w,R w→B→A w→L w→H w→q w)(k:(∀ w,R w→B→A w→L w→H w→q w)→p:=by intro z;refine AS fun w ga Ca g E=>?_;exact z w ga Ca g E (h.C ga Ca O Gl)):p:=k h
theorem Cy{p A:Prop}(h:A)(k:TL A→p:=by intro z;refine AN ?_;exact ⟨Ig z.h,g⟩):p:=k ⟨h⟩
theorem A5{p:Prop}{R A L q:Nat→Ae→Prop}{B:Nat→Prop}(h:∀ b w,R b w→B b→A b w→L b w→q b w)(k:(∀ b w,R b w→B b→A b w→L b w→q b w)→p:=by
 intro h;refine Ad ?_
 first
  | refine En rfl D9.h rfl (fun b w N=>h b w N (Dw N g.size) (BZ g N.g) (E.new N))
  | refine En rfl D9.h rfl (fun b w N=>h b w N (N.ge g) (g.trans N.g) (E.new N))):p:=k h
theorem Pu{p:Prop}{R A L q:Nat→Ae→Prop}{B:Nat→Prop}(h:∀ b w,R b w→B b→A b w→L b w→q b w)(k:(∀ b w,R b w→B b→A b w→L b w→q b w)→p:=by
 intro h;refine Ad ?_
 first
  | refine En rfl D9.h rfl (fun b w N=>h b w N (Dw N g.size) (BZ g N.g) ((IQ _).new N))
  | refine En rfl D9.h rfl (fun b w N=>h b w N (N.ge g) (g.trans N.g) ((IQ _).new N))):p:=k h
theorem Mt{p:Prop}{R A L q:Nat→Ae→Prop}{B:Nat→Prop}(h:∀ b w,R b w→B b→A b w→L b w→q b w)(k:(∀ b w,R b w→B b→A b w→L b w→q b w)→p:=by
 intro h;refine Ad ?_
 first
  | refine Jr rfl (FN rfl) rfl (fun b w N=>h b w N (Dw N g.size) (BZ g N.g) (E.new N))
  | refine Jr rfl (FN rfl) rfl (fun b w N=>h b w N (N.ge g) (g.trans N.g) (E.new N))):p:=k h
theorem CT{p:Prop}{R A L q:Nat→Ae→Prop}{B:Nat→Prop}(h:∀ b w,R b w→B b→A b w→L b w→q b w)(k:(∀ b w,R b w→B b→A b w→L b w→q b w)→p:=by
 intro h;refine Ad ?_
 first
  | refine Jr rfl (FN rfl) rfl (fun b w N=>h b w N (Dw N g.size) (BZ g N.g) ((IQ _).new N))
  | refine Jr rfl (FN rfl) rfl (fun b w N=>h b w N (N.ge g) (g.trans N.g) ((IQ _).new N))):p:=k h
theorem Ck{p:Prop}{R A L q:Nat→Ae→Prop}{B:Nat→Prop}(h:∀ b w,R b w→B b→A b w→L b w→q b w)(k:(∀ b w,R b w→B b→A b w→L b w→q b w)→p:=by
 intro h;refine Ad ?_
 first
  | refine Fe _ rfl Jt.h D9.h (by first|exact Bk rfl CH|exact Bk rfl (Bk rfl CH)|exact Bk rfl (Bk rfl (Bk rfl CH))|exact Bk rfl (Bk rfl (Bk rfl (Bk rfl CH)))|exact Bk rfl (Bk rfl (Bk rfl (Bk rfl (Bk rfl CH))))|exact Bk rfl (Bk rfl (Bk rfl (Bk rfl (Bk rfl (Bk rfl CH)))))) rfl rfl (fun b w N=>h b w N (Dw N g.size) (BZ g N.g) (E.new N))
  | refine Fe _ rfl Jt.h D9.h (by first|exact Bk rfl CH|exact Bk rfl (Bk rfl CH)|exact Bk rfl (Bk rfl (Bk rfl CH))|exact Bk rfl (Bk rfl (Bk rfl (Bk rfl CH)))|exact Bk rfl (Bk rfl (Bk rfl (Bk rfl (Bk rfl CH))))|exact Bk rfl (Bk rfl (Bk rfl (Bk rfl (Bk rfl (Bk rfl CH)))))) rfl rfl (fun b w N=>h b w N (N.ge g) (g.trans N.g) (E.new N))):p:=k h
theorem VN{p:Prop}{R A L q:Nat→Ae→Prop}{B:Nat→Prop}(h:∀ b w,R b w→B b→A b w→L b w→q b w)(k:(∀ b w,R b w→B b→A b w→L b w→q b w)→p:=by
 intro h;refine Ad ?_
 first
  | refine Fe _ rfl Jt.h D9.h (by first|exact Bk rfl CH|exact Bk rfl (Bk rfl CH)|exact Bk rfl (Bk rfl (Bk rfl CH))|exact Bk rfl (Bk rfl (Bk rfl (Bk rfl CH)))|exact Bk rfl (Bk rfl (Bk rfl (Bk rfl (Bk rfl CH))))|exact Bk rfl (Bk rfl (Bk rfl (Bk rfl (Bk rfl (Bk rfl CH)))))) rfl rfl (fun b w N=>h b w N (Dw N g.size) (BZ g N.g) ((IQ _).new N))
  | refine Fe _ rfl Jt.h D9.h (by first|exact Bk rfl CH|exact Bk rfl (Bk rfl CH)|exact Bk rfl (Bk rfl (Bk rfl CH))|exact Bk rfl (Bk rfl (Bk rfl (Bk rfl CH)))|exact Bk rfl (Bk rfl (Bk rfl (Bk rfl (Bk rfl CH))))|exact Bk rfl (Bk rfl (Bk rfl (Bk rfl (Bk rfl (Bk rfl CH)))))) rfl rfl (fun b w N=>h b w N (N.ge g) (g.trans N.g) ((IQ _).new N))):p:=k h
theorem AS{p B:Prop}{R A L q:Ae→Prop}(h:∀ w,R w→B→A w→L w→q w)(k:(∀ w,R w→B→A w→L w→q w)→p:=by
 intro h;refine Ad ?_
 first
  | refine FH Dd.h rfl rfl rfl E.J (fun w r _ B=>h w r E.J (by first|exact Cw g r (by first|assumption|omega)|exact BJ g r (by first|assumption|omega)) (E.s0 r B))
  | refine Jl Dd.h rfl rfl rfl E.J (fun w r _ B=>h w r E.J (by first|exact Cw g r (by first|assumption|omega)|exact BJ g r (by first|assumption|omega)) (E.s0 r B))
  | refine FH Dd.h rfl rfl rfl E.U (fun w r _ B=>h w r E.U (by first|exact Cw g r (by first|assumption|omega)|exact BJ g r (by first|assumption|omega)) (E.s1 r B))
  | refine Jl Dd.h rfl rfl rfl E.U (fun w r _ B=>h w r E.U (by first|exact Cw g r (by first|assumption|omega)|exact BJ g r (by first|assumption|omega)) (E.s1 r B))
  | refine FH Dd.h rfl rfl rfl E.g2 (fun w r _ B=>h w r E.g2 (by first|exact Cw g r (by first|assumption|omega)|exact BJ g r (by first|assumption|omega)) (E.s2 r B))
  | refine Jl Dd.h rfl rfl rfl E.g2 (fun w r _ B=>h w r E.g2 (by first|exact Cw g r (by first|assumption|omega)|exact BJ g r (by first|assumption|omega)) (E.s2 r B))
  | refine FH Dd.h rfl rfl rfl E.g3 (fun w r _ B=>h w r E.g3 (by first|exact Cw g r (by first|assumption|omega)|exact BJ g r (by first|assumption|omega)) (E.s3 r B))
  | refine Jl Dd.h rfl rfl rfl E.g3 (fun w r _ B=>h w r E.g3 (by first|exact Cw g r (by first|assumption|omega)|exact BJ g r (by first|assumption|omega)) (E.s3 r B))
  | refine FH Dd.h rfl rfl rfl E.g4 (fun w r _ B=>h w r E.g4 (by first|exact Cw g r (by first|assumption|omega)|exact BJ g r (by first|assumption|omega)) (E.s4 r B))
  | refine Jl Dd.h rfl rfl rfl E.g4 (fun w r _ B=>h w r E.g4 (by first|exact Cw g r (by first|assumption|omega)|exact BJ g r (by first|assumption|omega)) (E.s4 r B))
  | refine FH Dd.h rfl rfl rfl E.g5 (fun w r _ B=>h w r E.g5 (by first|exact Cw g r (by first|assumption|omega)|exact BJ g r (by first|assumption|omega)) (E.s5 r B))
  | refine Jl Dd.h rfl rfl rfl E.g5 (fun w r _ B=>h w r E.g5 (by first|exact Cw g r (by first|assumption|omega)|exact BJ g r (by first|assumption|omega)) (E.s5 r B))
  | refine FH Dd.h rfl rfl rfl E.g6 (fun w r _ B=>h w r E.g6 (by first|exact Cw g r (by first|assumption|omega)|exact BJ g r (by first|assumption|omega)) (E.s6 r B))
  | refine Jl Dd.h rfl rfl rfl E.g6 (fun w r _ B=>h w r E.g6 (by first|exact Cw g r (by first|assumption|omega)|exact BJ g r (by first|assumption|omega)) (E.s6 r B))
  | refine FH Dd.h rfl rfl rfl E.g7 (fun w r _ B=>h w r E.g7 (by first|exact Cw g r (by first|assumption|omega)|exact BJ g r (by first|assumption|omega)) (E.s7 r B))
  | refine Jl Dd.h rfl rfl rfl E.g7 (fun w r _ B=>h w r E.g7 (by first|exact Cw g r (by first|assumption|omega)|exact BJ g r (by first|assumption|omega)) (E.s7 r B))
  | refine FH Dd.h rfl rfl rfl E.g8 (fun w r _ B=>h w r E.g8 (by first|exact Cw g r (by first|assumption|omega)|exact BJ g r (by first|assumption|omega)) (E.s8 r B))
  | refine Jl Dd.h rfl rfl rfl E.g8 (fun w r _ B=>h w r E.g8 (by first|exact Cw g r (by first|assumption|omega)|exact BJ g r (by first|assumption|omega)) (E.s8 r B))
  | refine FH Dd.h rfl rfl rfl E.g9 (fun w r _ B=>h w r E.g9 (by first|exact Cw g r (by first|assumption|omega)|exact BJ g r (by first|assumption|omega)) (E.s9 r B))
  | refine Jl Dd.h rfl rfl rfl E.g9 (fun w r _ B=>h w r E.g9 (by first|exact Cw g r (by first|assumption|omega)|exact BJ g r (by first|assumption|omega)) (E.s9 r B))
  | refine FH Dd.h rfl rfl rfl E.g10 (fun w r _ B=>h w r E.g10 (by first|exact Cw g r (by first|assumption|omega)|exact BJ g r (by first|assumption|omega)) (E.s10 r B))
  | refine Jl Dd.h rfl rfl rfl E.g10 (fun w r _ B=>h w r E.g10 (by first|exact Cw g r (by first|assumption|omega)|exact BJ g r (by first|assumption|omega)) (E.s10 r B))
  | refine FH Dd.h rfl rfl rfl E.g11 (fun w r _ B=>h w r E.g11 (by first|exact Cw g r (by first|assumption|omega)|exact BJ g r (by first|assumption|omega)) (E.s11 r B))
  | refine Jl Dd.h rfl rfl rfl E.g11 (fun w r _ B=>h w r E.g11 (by first|exact Cw g r (by first|assumption|omega)|exact BJ g r (by first|assumption|omega)) (E.s11 r B))
  | refine FH Dd.h rfl rfl rfl E.g12 (fun w r _ B=>h w r E.g12 (by first|exact Cw g r (by first|assumption|omega)|exact BJ g r (by first|assumption|omega)) (E.s12 r B))
  | refine Jl Dd.h rfl rfl rfl E.g12 (fun w r _ B=>h w r E.g12 (by first|exact Cw g r (by first|assumption|omega)|exact BJ g r (by first|assumption|omega)) (E.s12 r B))):p:=k h
theorem AK{p q:Prop}(h:p)(k:p→q:=by exact fun h=>h.C ga BR):q:=k h
theorem G3{p q:Prop}(h:p)(k:p→q:=by exact fun h=>h.C ga Ca rfl O):q:=k h
theorem AX{p B:Prop}{R A L H q:Go.World→Prop}(h:∀ w,R w→B→A w→L w→H w→q w)(k:(∀ w,R w→B→A w→L w→H w→q w)→p:=by intro z;refine AS fun w ga Ca g E=>?_;exact z w ga Ca g E (G3 h)):p:=k h
theorem Co{p q:Prop}(h:p)(k:p→q:=by exact fun h=>h.C ga Fv):q:=k h
theorem DO{p q:Prop}(h:p)(k:p→q:=by exact fun h=>by first|exact h.af ga Ca rfl|exact h.C ga BR):q:=k h
theorem IW{p q:Prop}(h:p)(k:p→q:=by exact fun h=>by first|exact h.af ga Ca rfl|exact h.C ga (by first|exact .inl O|simp)):q:=k h
theorem CZ{p q:Prop}(h:p)(k:p→q:=by exact fun h=>MF h ga O):q:=k h
theorem Ar{p q:Prop}(h:p)(k:p→q:=by exact fun h=>h.A ga.g):q:=k h
theorem Bq{p q:Prop}(h:p)(k:p→q:=by exact fun h=>h.new ga):q:=k h
theorem AV{p q:Prop}(h:p)(k:p→q:=by exact fun h=>h.A ga):q:=k h
theorem DP{p q:Prop}(h:p)(k:p→q:=by exact fun h=>h.gt ga):q:=k h
theorem F2{p q:Prop}(h:p)(k:p→q:=by exact fun h=>h.gt ga (fun k h=>h)):q:=k h
end Go.Rk
namespace Go.Rk
open Go.Proofs
open Go
theorem BH:True:=Cc
def I8(c:Int):Bool:=(Ac (97≤c)&&Ac (c≤122) || Ac (65≤c)&&Ac (c≤90)) || Ac (c=95)
def Fx(c:Int):Bool:=Ac (48≤c)&&Ac (c≤57)
theorem WO(c:Int)(w:Ae):Bz An 178 #[.int .u8 c] w fun v w'=>v = .bool (I8 c)∧G w w':=by
 have g:=G.refl w;refine Cu 21 [0] Tryz.func178 ?_;refine AN ?_;exact ⟨rfl,g⟩
theorem VZ(c:Int)(w:Ae):Bz An 180 #[.int .u8 c] w fun v w'=>v = .bool (Fx c)∧G w w':=by
 have g:=G.refl w;refine Cu 9 [0] Tryz.func180 ?_;refine AN ?_;exact ⟨rfl,g⟩
theorem Abr(c:Int)(w:Ae):Bz An 177 #[.int .u8 c] w fun v w'=>v = .bool (!Ac (c=10))∧G w w':=by
 have g:=G.refl w;refine Cu 5 [0] Tryz.func177 ?_;refine AN ?_;exact ⟨rfl,g⟩
theorem vQ(c:Int)(w:Ae):Bz An 179 #[.int .u8 c] w fun v w'=>v = .bool (I8 c || Fx c)∧G w w':=by
 have g:=G.refl w;refine Cu 9 [0] Tryz.func179 ?_;refine Ad ?_;refine DI (WO _ _) (fun w4 g4=>?_);have g:=g.trans g4;refine Ad ?_;refine GA (fun hc=>VZ _ _) (fun w7 g7=>?_);have g:=g.trans g7;refine AN ?_;exact ⟨rfl,g⟩
def KM:List (List UInt8):=[[116,121,112,101],[115,116,114,117,99,116],[118,97,114],[102,117,110,99],[105,102],[101,108,115,101],[102,111,114],[114,101,116,117,114,110],[103,111],[100,101,102,101,114],[115,101,108,101,99,116],[99,97,115,101],[100,101,102,97,117,108,116],[99,104,97,110],[110,101,119],[109,97,107,101],[108,101,110],[116,114,117,101],[102,97,108,115,101],[110,105,108],[112,114,105,110,116],[99,108,111,115,101],[105,110,116],[98,111,111,108],[109,117,116,101,120],[114,119,109,117,116,101,120],[103,114,111,117,112],[111,110,99,101],[97,116,111,109,105,99]]
def SY:List (List UInt8):=[[116,114,117,101],[102,97,108,115,101],[110,105,108],[114,101,116,117,114,110],[105,110,116],[98,111,111,108],[109,117,116,101,120],[114,119,109,117,116,101,120],[103,114,111,117,112],[111,110,99,101],[97,116,111,109,105,99],[41],[93],[125]]
def Jk(l:List (List UInt8))(s:List UInt8):Bool:=l.any fun k=>Ac (s=k)
theorem nL(s:List UInt8)(w:Ae):Bz An 181 #[Cg s] w fun v w'=>v = .bool (Jk KM s)∧G w w':=by
 have g:=G.refl w;refine Cu 34 [0] Tryz.func181 ?_;refine Ad ?_;refine' A1 [2] (fun ax=>?y1) (Al ?n1)
 case y1 =>
  refine Ad ?_;refine' A1 [2] (fun Ga=>?y2) A0
  case y2 =>
   refine Ad ?_;refine' A1 [2] (fun a4=>?y3) A0
   case y3 =>
    refine Ad ?_;refine' A1 [2] (fun a3=>?y4) A0
    case y4 =>
     refine Ad ?_;refine' A1 [2] (fun ay=>?y5) A0
     case y5 =>
      refine Ad ?_;refine' A1 [2] (fun a1=>?y6) A0
      case y6 =>
       refine Ad ?_;refine' A1 [2] (fun az=>?y7) A0
       case y7 =>
        refine Ad ?_;refine' A1 [2] (fun aw=>?y8) A0
        case y8 =>
         refine Ad ?_;refine' A1 [2] (fun a2=>?y9) A0
         case y9 =>
          refine Ad ?_;refine' A1 [2] (fun ar=>?y10) A0
          case y10 =>
           refine Ad ?_;refine' A1 [2] (fun aq=>?y11) A0
           case y11 =>
            refine Ad ?_;refine' A1 [2] (fun ak=>?y12) A0
            case y12 =>
             refine Ad ?_;refine' A1 [2] (fun av=>?y13) A0
             case y13 =>
              refine Ad ?_;refine' A1 [2] (fun al=>?y14) A0
              case y14 =>
               refine Ad ?_;refine' A1 [2] (fun an=>?y15) A0
               case y15 =>
                refine Ad ?_;refine' A1 [2] (fun au=>?y16) A0
                case y16 =>
                 refine Ad ?_;refine' A1 [2] (fun ah=>?y17) A0
                 case y17 =>
                  refine Ad ?_;refine' A1 [2] (fun ac=>?y18) A0
                  case y18 =>
                   refine Ad ?_;refine' A1 [2] (fun ae=>?y19) A0
                   case y19 =>
                    refine Ad ?_;refine' A1 [2] (fun ap=>?y20) A0
                    case y20 =>
                     refine Ad ?_;refine' A1 [2] (fun am=>?y21) A0
                     case y21 =>
                      refine Ad ?_;refine' A1 [2] (fun ag=>?y22) A0
                      case y22 =>
                       refine Ad ?_;refine' A1 [2] (fun ao=>?y23) A0
                       case y23 =>
                        refine Ad ?_;refine' A1 [2] (fun ai=>?y24) A0
                        case y24 =>
                         refine Ad ?_;refine' A1 [2] (fun ad=>?y25) A0
                         case y25 =>
                          refine Ad ?_;refine' A1 [2] (fun af=>?y26) A0
                          case y26 =>
                           refine Ad ?_;refine' A1 [2] (fun aj=>?y27) A0
                           case y27 =>
                            refine Ad ?_;refine' A1 [2] (fun ab=>?y28) A0
                            case y28 =>
                             refine Ad ?_;refine Ci [4,2] ?_;exact Ai A0
 case n1 =>
  refine Aw (fun aa=>?_) fun aa=>?_;(try simp only [BH] at aa);refine AN ?_;refine ⟨?_,g⟩;simp only [Jk,KM,Ei,Eo,Dr];rw [aa];refine AN ?_;refine ⟨?_,g⟩;simp only [Jk,KM,Ei,Eo,Dr];rw [aa]
theorem Agz(s:List UInt8)(w:Ae):Bz An 185 #[Cg s] w fun v w'=>v = .bool (Jk SY s)∧G w w':=by
 have g:=G.refl w;refine Cu 19 [0] Tryz.func185 ?_;refine Ad ?_;refine' A1 [2] (fun ai=>?y1) (Al ?n1)
 case y1 =>
  refine Ad ?_;refine' A1 [2] (fun Ga=>?y2) A0
  case y2 =>
   refine Ad ?_;refine' A1 [2] (fun ah=>?y3) A0
   case y3 =>
    refine Ad ?_;refine' A1 [2] (fun ag=>?y4) A0
    case y4 =>
     refine Ad ?_;refine' A1 [2] (fun aj=>?y5) A0
     case y5 =>
      refine Ad ?_;refine' A1 [2] (fun al=>?y6) A0
      case y6 =>
       refine Ad ?_;refine' A1 [2] (fun ak=>?y7) A0
       case y7 =>
        refine Ad ?_;refine' A1 [2] (fun af=>?y8) A0
        case y8 =>
         refine Ad ?_;refine' A1 [2] (fun am=>?y9) A0
         case y9 =>
          refine Ad ?_;refine' A1 [2] (fun ac=>?y10) A0
          case y10 =>
           refine Ad ?_;refine' A1 [2] (fun ab=>?y11) A0
           case y11 =>
            refine Ad ?_;refine' A1 [2] (fun ad=>?y12) A0
            case y12 =>
             refine Ad ?_;refine' A1 [2] (fun ae=>?y13) A0
             case y13 =>
              refine Ad ?_;refine Ci [4,2] ?_;exact Ai A0
 case n1 =>
  refine Aw (fun aa=>?_) fun aa=>?_;(try simp only [BH] at aa);refine AN ?_;refine ⟨?_,g⟩;simp only [Jk,SY,Ei,Eo,Dr];rw [aa];refine AN ?_;refine ⟨?_,g⟩;simp only [Jk,SY,Ei,Eo,Dr];rw [aa]
theorem vR(s:List UInt8)(w:Ae):Bz An 95 #[Cg s] w fun v w'=>v = .bool (Jk KM s)∧G w w':=by
 have g:=G.refl w;refine Cu 34 [0] Tryz.func95 ?_;refine Ad ?_;refine' A1 [2] (fun ax=>?y1) (Al ?n1)
 case y1 =>
  refine Ad ?_;refine' A1 [2] (fun Ga=>?y2) A0
  case y2 =>
   refine Ad ?_;refine' A1 [2] (fun a4=>?y3) A0
   case y3 =>
    refine Ad ?_;refine' A1 [2] (fun a3=>?y4) A0
    case y4 =>
     refine Ad ?_;refine' A1 [2] (fun ay=>?y5) A0
     case y5 =>
      refine Ad ?_;refine' A1 [2] (fun a1=>?y6) A0
      case y6 =>
       refine Ad ?_;refine' A1 [2] (fun az=>?y7) A0
       case y7 =>
        refine Ad ?_;refine' A1 [2] (fun aw=>?y8) A0
        case y8 =>
         refine Ad ?_;refine' A1 [2] (fun a2=>?y9) A0
         case y9 =>
          refine Ad ?_;refine' A1 [2] (fun ar=>?y10) A0
          case y10 =>
           refine Ad ?_;refine' A1 [2] (fun aq=>?y11) A0
           case y11 =>
            refine Ad ?_;refine' A1 [2] (fun ak=>?y12) A0
            case y12 =>
             refine Ad ?_;refine' A1 [2] (fun av=>?y13) A0
             case y13 =>
              refine Ad ?_;refine' A1 [2] (fun al=>?y14) A0
              case y14 =>
               refine Ad ?_;refine' A1 [2] (fun an=>?y15) A0
               case y15 =>
                refine Ad ?_;refine' A1 [2] (fun au=>?y16) A0
                case y16 =>
                 refine Ad ?_;refine' A1 [2] (fun ah=>?y17) A0
                 case y17 =>
                  refine Ad ?_;refine' A1 [2] (fun ac=>?y18) A0
                  case y18 =>
                   refine Ad ?_;refine' A1 [2] (fun ae=>?y19) A0
                   case y19 =>
                    refine Ad ?_;refine' A1 [2] (fun ap=>?y20) A0
                    case y20 =>
                     refine Ad ?_;refine' A1 [2] (fun am=>?y21) A0
                     case y21 =>
                      refine Ad ?_;refine' A1 [2] (fun ag=>?y22) A0
                      case y22 =>
                       refine Ad ?_;refine' A1 [2] (fun ao=>?y23) A0
                       case y23 =>
                        refine Ad ?_;refine' A1 [2] (fun ai=>?y24) A0
                        case y24 =>
                         refine Ad ?_;refine' A1 [2] (fun ad=>?y25) A0
                         case y25 =>
                          refine Ad ?_;refine' A1 [2] (fun af=>?y26) A0
                          case y26 =>
                           refine Ad ?_;refine' A1 [2] (fun aj=>?y27) A0
                           case y27 =>
                            refine Ad ?_;refine' A1 [2] (fun ab=>?y28) A0
                            case y28 =>
                             refine Ad ?_;refine Ci [4,2] ?_;exact Ai A0
 case n1 =>
  refine Aw (fun aa=>?_) fun aa=>?_;(try simp only [BH] at aa);refine AN ?_;refine ⟨?_,g⟩;simp only [Jk,KM,Ei,Eo,Dr];rw [aa];refine AN ?_;refine ⟨?_,g⟩;simp only [Jk,KM,Ei,Eo,Dr];rw [aa]
end Go.Rk
namespace Go.Rk
open Go.Proofs
open Go Go.RowKit
def I3(p s:List UInt8):Bool:=Ac (p.length≤s.length)&&Ac (s.take p.length=p)
theorem lX(s p:List UInt8)(w:Ae):Bz An 186 #[Cg s,Cg p] w fun v w'=>v = .bool (I3 p s)∧G w w':=by
 have g:=G.refl w;refine Cu 18 [0,1] Tryz.func186 ?_;refine Ad ?_;refine Ay J J J (fun _=>Xx JW (Ah J id) (Ah J id) (fun hc=>⟨O,by have:=AH hc.2;omega⟩)) ?_;refine AN ?_;refine ⟨?_,g⟩;unfold I3;simp
theorem iB(s p:List UInt8)(w:Ae):Bz An 175 #[Cg s,Cg p] w fun v w'=>v = .bool (I3 p s)∧G w w':=by
 have g:=G.refl w;refine Cu 8 [0,1] Tryz.func175 ?_;refine Ad ?_;refine DI (lX _ _ _) (fun w7 g7=>?_);have g:=g.trans g7;refine AN ?_;exact ⟨rfl,g⟩
structure EF where
  k:Int
  o:List UInt8
  z:Int
def NJ(t:EF):List Aj:=[.int .i64 t.k,Cg t.o,.int .i64 t.z]
def Ko(l:List EF):List Aj:=l.flatMap NJ
theorem kG(l:List EF):(Ko l).length=l.length*3:=by
 unfold Ko
 induction l with
 | nil=>rfl
 | cons t l ih=>rw [Ez,DQ,ih];simp [NJ];omega
theorem TY(l:List EF)(t:EF):Ko (l++[t])=Ko l++NJ t:=by simp [Ko]
def Mw(base b:Nat)(s:List UInt8)(p:Nat)(ts cs:List EF)(w:Ae):Prop :=
 ∃ ta tc ca cc,Ax w b 127 [Cg s,.int .i64 p,.slice ta ts.length tc,.slice ca cs.length cc]∧base≤b∧w.ownsRow base 94 3 (.slice ta ts.length tc) ts.length (Ko ts)∧
  w.ownsRow base 94 3 (.slice ca cs.length cc) cs.length (Ko cs)∧(Fs ta ts.length tc).ownBlock≠some b∧(Fs ca cs.length cc).ownBlock≠some b∧
  (∀ k,(Fs ta ts.length tc).ownBlock=some k→(Fs ca cs.length cc).ownBlock≠some k)∧ts.length≤p∧cs.length≤p∧p≤s.length∧s.length≤20000
theorem VM{w:Ae}{base:Nat}{e:AD}{z:Nat}{tv aa cv:Aj}{m:Nat}{xs:List Aj}(hc:w.ownsRow base e z cv m xs)(n3:∀ k,tv.ownBlock=some k→cv.ownBlock≠some k)
 (ab:aa.ownBlock=tv.ownBlock∨aa.ownBlock=some w.heap.size):∀ k,aa.ownBlock=some k→cv.ownBlock≠some k:=by
 intro k hk;rcases ab with e|e;exact n3 k (e▸hk);rw [e] at hk;injection hk with hk;subst hk;exact sH hc (Bu _)
theorem Xo{w:Ae}{b:Nat}{tv aa:Aj}(hb:b<w.heap.size)(n1:tv.ownBlock≠some b)(ab:aa.ownBlock=tv.ownBlock∨aa.ownBlock=some w.heap.size):aa.ownBlock≠some b:=by
 rcases ab with e|e <;> rw [e]
 exact n1;intro h;injection h with h;omega
theorem Xj{w w':Ae}{base:Nat}{e:AD}{z:Nat}{tv cv:Aj}{m:Nat}{xs:List Aj}(hc:w.ownsRow base e z cv m xs)(n3:∀ k,tv.ownBlock=some k→cv.ownBlock≠some k)(hg:w.grownBy w' tv.ownBlock):w'.ownsRow base e z cv m xs :=
 Dg hc hg (by rcases hq:cv.ownBlock with _|k;exact .inl rfl;exact .inr (fun he=>n3 k he.symm hq))
theorem Tr(base b:Nat)(s:List UInt8)(p:Nat)(ts cs:List EF)(kind:Int)(size:Nat)(w:Ae)(hs:Mw base b s p ts cs w)(h1:1≤size)(h2:p+size≤s.length) :
 Bz An 182 #[.pointer (some ⟨b,0,none⟩),.int .i64 kind,.int .i64 size] w fun v w'=>v = .tuple #[]∧Mw base b s (p+size) (ts++[⟨kind,(s.drop p).take size,p⟩]) cs w'∧Below base w w':=by
 obtain ⟨ta,tc,ca,cc,hB,ai,ht,hc,n1,n2,n3,k1,k2,k3,k4⟩:=hs;have hb:Below base w w:=Below.refl _ _;have af:=hB.lt;refine JB (m:=44) Tryz.func182 J J [(0,True,_),(1,True,_),(2,True,_)] Bp ?_;refine Am (Dj [3,3,3,3,0,3,3,3,3,0,3,3,3,0,3,3,3,0,3,3,3,3,3,3,0,3,1,2,3,3,2] ?_);have hb:=hb.drew;have hB:Ax w.drew _ _ _:=hB;have ht:=Y3 ht;have hc:=Y3 hc;refine Ap J (Ap J (C1 J (AE PU J (AM O9 J (hB.y J) (Ap J (Ap J (C1 J (AE Nc J (AM DW J (hB.y J) (Ap J (C1 J (AE Ib J (AM Cb J (hB.y J) (Ap J (C1 J (?_))))))))))))))));refine AE Ib J (AM Cb J (hB.y J) (Ap J (H2 J J O (AR J (fun _=>Qw JW (Ab J) (Ab J) (Ab J) (fun _=>O)) (Ap J (C1 J (AE Ib J (AM Cb J (hB.y J) (Hg Oj UM (Bk J (Bk J (Bk J CH))) J J (Fe _ J MG Oj (Bk J CH) J J ?_))))))))));intro al ak aa;have hb:=hb.trans (LA aa.g (by show base≤w.heap.size;omega));have hB:=hB.A aa.g;have ht:=Ef ht aa.g;have hc:=Ef hc aa.g;have af:=hB.lt;have E:=(IQ _).new aa;refine Ja J MG Oj J BT (Ab J) ht (Ab J) J aa.H.row J (by simp only [maxLen];omega) O O ?_;intro ag aj an ab hg ae;have hb:=M1 hb hg O (fun k hk=>(ht.lt k hk).1);have hB:=hB.C hg (Ne.symm n1);have ah:=VM hc n3 ae;have hc:=Xj hc n3 hg;have n3:=ah
 have n1:=Xo af n1 ae;refine Ad ?_;refine Df J UO (Ab J) (Ab J) J J hB J J ?_;intro aq ad am hB;have hb:=M1 hb ad (by have:=hb.size;omega) (fun k hk=>by injection hk with hk;omega);have ab:=Dg ab ad (.inr n1);have hc:=Dg hc ad (.inr n2);refine Ad ?_;refine Df J I2 (Ab J) (Ab J) J J hB J J ?_;intro ap ac ao hB;have hb:=M1 hb ac (by have:=hb.size;omega) (fun k hk=>by injection hk with hk;omega);have ab:=Dg ab ac (.inr n1);have hc:=Dg hc ac (.inr n2);refine Ai (Hh J ?_);have e:((p:Int)+size).toNat-(p:Int).toNat=size:=by omega
 rw [e] at ab;have hl:(ts++[(⟨kind,(s.drop p).take size,p⟩:EF)]).length=ts.length+1:=by simp
 refine ⟨rfl,⟨ag,aj,ca,cc,?_,ai,?_,hc,?_,n2,?_,?_,O,h2,k4⟩,hb⟩ <;> rw [hl]
 exact hB;rw [TY];exact ab;exact n1;exact n3;omega
structure Jp (base b:Nat) (s:List UInt8) (p:Nat) (ts cs:List EF) (ta:Option Addr) (tc:Nat) (ca:Option Addr) (cc:Nat) (w:Ae):Prop where
  B:Ax w b 127 [Cg s,.int .i64 p,.slice ta ts.length tc,.slice ca cs.length cc]
  hb:base≤b
  ht:w.ownsRow base 94 3 (.slice ta ts.length tc) ts.length (Ko ts)
  hc:w.ownsRow base 94 3 (.slice ca cs.length cc) cs.length (Ko cs)
  n1:(Fs ta ts.length tc).ownBlock≠some b
  n2:(Fs ca cs.length cc).ownBlock≠some b
  n3:∀ k,(Fs ta ts.length tc).ownBlock=some k→(Fs ca cs.length cc).ownBlock≠some k
theorem Jp.A{base b:Nat}{s:List UInt8}{p:Nat}{ts cs:List EF}{ta:Option Addr}{tc:Nat}{ca:Option Addr}{cc:Nat}{w w1:Ae}(h:Jp base b s p ts cs ta tc ca cc w)(g:G w w1):Jp base b s p ts cs ta tc ca cc w1 :=
 { h with B:=h.B.A g,ht:=Ef h.ht g,hc:=Ef h.hc g }
theorem Jp.aq{base b:Nat}{s:List UInt8}{p:Nat}{ts cs:List EF}{ta:Option Addr}{tc:Nat}{ca:Option Addr}{cc:Nat}{w:Ae}(h:Jp base b s p ts cs ta tc ca cc w)(k1:ts.length≤p)(k2:cs.length≤p)(k3:p≤s.length)(k4:s.length≤20000):Mw base b s p ts cs w :=
 ⟨ta,tc,ca,cc,h.B,h.hb,h.ht,h.hc,h.n1,h.n2,h.n3,k1,k2,k3,k4⟩
theorem Mw.sa{base b:Nat}{s:List UInt8}{p:Nat}{ts cs:List EF}{w:Ae}(h:Mw base b s p ts cs w):∃ ta tc ca cc,Jp base b s p ts cs ta tc ca cc w∧ts.length≤p∧cs.length≤p∧p≤s.length∧s.length≤20000:=by
 obtain ⟨ta,tc,ca,cc,hB,aa,ht,hc,n1,n2,n3,k1,k2,k3,k4⟩:=h;exact ⟨ta,tc,ca,cc,⟨hB,aa,ht,hc,n1,n2,n3⟩,k1,k2,k3,k4⟩
theorem Jp.ad{base b:Nat}{s:List UInt8}{p:Nat}{ts cs:List EF}{ta:Option Addr}{tc:Nat}{ca:Option Addr}{cc:Nat}{w:Ae}(h:Jp base b s p ts cs ta tc ca cc w):base≤w.heap.size:=by have:=h.hb;have:=h.B.lt;omega
theorem Jp.a3{base b:Nat}{s:List UInt8}{p q:Nat}{ts cs:List EF}{ta:Option Addr}{tc:Nat}{ca:Option Addr}{cc:Nat}{w w1:Ae}(h:Jp base b s p ts cs ta tc ca cc w)(hg:w.grownBy w1 (some b))
  (hB:Ax w1 b 127 [Cg s,.int .i64 q,.slice ta ts.length tc,.slice ca cs.length cc]):Jp base b s q ts cs ta tc ca cc w1 :=
 { h with B:=hB,ht:=Dg h.ht hg (.inr h.n1),hc:=Dg h.hc hg (.inr h.n2) }
theorem Sk{base b:Nat}{a wk w1 w2:Ae}(hb:Below base a wk)(g:G wk w1)(hg:w1.grownBy w2 (some b))(hz:base≤wk.heap.size)(h:base≤b):Below base a w2:=by
 have:=g.size;exact M1 (hb.trans (LA g hz)) hg O (fun k hk=>by injection hk with hk;omega)
theorem Jp.bt{base b:Nat}{s:List UInt8}{p:Nat}{ts cs:List EF}{ta:Option Addr}{tc:Nat}{ca:Option Addr}{cc:Nat}{w w1 w2:Ae}{aa:Option Addr}{ab:Nat}{t:EF}(h:Jp base b s p ts cs ta tc ca cc w)
 (h1:w1.ownsRow base 94 3 (.slice aa (ts.length+1) ab) (ts.length+1) (Ko ts++NJ t)) (hg:w.grownBy w1 (Fs ta ts.length tc).ownBlock)
 (ac:(Fs aa (ts.length+1) ab).ownBlock=(Fs ta ts.length tc).ownBlock∨(Fs aa (ts.length+1) ab).ownBlock=some w.heap.size) (ad:w1.grownBy w2 (some b))
 (hB:Ax w2 b 127 [Cg s,.int .i64 p,.slice aa (ts.length+1) ab,.slice ca cs.length cc]):Jp base b s p (ts++[t]) cs aa ab ca cc w2:=by
 have n1:=Xo h.B.lt h.n1 ac;have hl:(ts++[t]).length=ts.length+1:=by simp
 have hc:=Xj h.hc h.n3 hg;refine ⟨by rw [hl];exact hB,h.hb,?_,Dg hc ad (.inr h.n2),by rw [hl];exact n1,h.n2,?_⟩;rw [hl,TY];exact Dg h1 ad (.inr n1);rw [hl];exact VM h.hc h.n3 ac
theorem Jp.b0{base b:Nat}{s:List UInt8}{p:Nat}{ts cs:List EF}{ta:Option Addr}{tc:Nat}{ca:Option Addr}{cc:Nat}{w w1 w2:Ae}{ab:Option Addr}{aa:Nat}{t:EF}(h:Jp base b s p ts cs ta tc ca cc w)
 (h1:w1.ownsRow base 94 3 (.slice ab (cs.length+1) aa) (cs.length+1) (Ko cs++NJ t)) (hg:w.grownBy w1 (Fs ca cs.length cc).ownBlock)
 (ac:(Fs ab (cs.length+1) aa).ownBlock=(Fs ca cs.length cc).ownBlock∨(Fs ab (cs.length+1) aa).ownBlock=some w.heap.size) (ae:w1.grownBy w2 (some b))
 (hB:Ax w2 b 127 [Cg s,.int .i64 p,.slice ta ts.length tc,.slice ab (cs.length+1) aa]):Jp base b s p ts (cs++[t]) ta tc ab aa w2:=by
 have n2:=Xo h.B.lt h.n2 ac;have hl:(cs++[t]).length=cs.length+1:=by simp
 have ad:∀ k,(Fs ca cs.length cc).ownBlock=some k→(Fs ta ts.length tc).ownBlock≠some k:=fun k hk he=>h.n3 k he hk;have ht:=Xj h.ht ad hg;refine ⟨by rw [hl];exact hB,h.hb,Dg ht ae (.inr h.n1),?_,h.n1,by rw [hl];exact n2,?_⟩;rw [hl,TY];exact Dg h1 ae (.inr n2);rw [hl];exact fun k hk he=>VM h.ht ad ac k he hk
def TI(t:EF):Bool:=(Ac (t.k=1) || Ac (t.k=2)) || Jk SY t.o
def Lr(p:Nat)(ts:List EF):List EF:=match ts.getLast? with
 | some t=>if TI t=true then ts++[⟨4,[59],p⟩] else ts
 | none=>ts
theorem Agv{w:Ae}{b:Nat}{aa:List EF}{t:EF}(h:CQ w b 0 (Ko (aa++[t]))):CQ w b (0+(((aa++[t]).length:Nat)-1:Int).toNat*3) (NJ t):=by
 have e:(((aa++[t]).length:Nat)-1:Int).toNat=aa.length:=by simp
 have k:=h.part (aa.length*3) 3;rw [e]
 have e2:((Ko (aa++[t])).drop (aa.length*3)).take 3=NJ t:=by
  rw [TY,List.drop_append_of_le_length (by rw [kG];exact Bu _),IM (by rw [kG];exact Bu _)];rfl
 rw [e2] at k;exact k
theorem Aav(base b:Nat)(s:List UInt8)(p:Nat)(ts cs:List EF)(w:Ae)(hs:Mw base b s p ts cs w)(h2:p<s.length) :
 Bz An 174 #[.pointer (some ⟨b,0,none⟩)] w fun v w'=>v = .tuple #[]∧Mw base b s (p+1) (Lr p ts) cs w'∧Below base w w':=by
 obtain ⟨ta,tc,ca,cc,hs,k1,k2,k3,k4⟩:=hs.sa;have g:=G.refl w;have hb:Below base w w:=Below.refl _ _;refine Cu 53 [0] Tryz.func174 ?_;refine Am (Am (Au (Ap J (C1 J (AE PU J (AM O9 J (by first|exact (hs.A g).B.y J) (EI MG J (Bj J (Ai (Al (Am (Au (Ap J (SI J J (Ai (Al (Cv J (fun h1=>?_) (fun h1=>?_))))))))))))))))));have hp:0<ts.length:=by simp only [BM] at h1;omega
 obtain ⟨ac,t,an⟩:∃ ac t,ts=ac++[t]:=by
  rcases List.eq_nil_or_concat ts with e|⟨l,x,e⟩;rw [e] at hp;cases hp;exact ⟨l,x,by simpa using e⟩
 subst an;obtain ⟨bt,ct,GE,_,ah,_⟩:=LU hs.ht hp;injection GE with AU e2 e3;subst AU;have ag:=Agv ah;have ab:Lr p (ac++[t])=if TI t=true then (ac++[t])++[⟨4,[59],p⟩] else ac++[t]:=by simp [Lr]
 refine Am (Au (Ap J (C1 J (AE PU J (AM O9 J (by first|exact (hs.A g).B.y J) (Ap J (AR J (fun _=>Jy (Ab J) Bd (fun _=>O)) (Hn MG J J O (Ct dD J J (ag) (Pu fun _ _ _ _ g E=>?_))))))))));refine AS fun _ _ _ g E=>?_;refine Ad ?_;refine GA (fun hc=>Agz _ _) (DB fun ar av g E=>?_);refine AR J (fun _=>FR (Ab J) (Ah J id)) (Ai (Al (Cv J (fun h2=>?_) (fun h2=>?_))));rw [CO (show TI t=true from h2)] at ab;have hl:(Lr p (ac++[t])).length≤p+1:=by rw [ab,DQ];exact Nat.succ_le_succ k1
 refine Dj [3,3,3,3,0,3,3,3,0,3,1,2,3,3,2] ?_;refine FY fun g E=>?_;refine Ap J (Ap J (C1 J (AE PU J (AM O9 J (by first|exact (hs.A g).B.y J|exact E.J.y J|exact E.J.row) (Ap J (C1 J (AE Ib J (AM Cb J (by first|exact (hs.A g).B.y J|exact E.J.y J|exact E.J.row) (Hg Oj UM (Bk J (Bk J (Bk J CH))) J J (Ck fun _ _ ak _ g E=>?_))))))))));have hb:=hb.trans (LA g hs.ad);have hs:=hs.A g;have aq:=hs.ad;refine Ja J MG Oj J BT (Ab J) hs.ht (Ab J) J ak.H.row J (by simp only [maxLen];omega) O O ?_;intro ap aw au al ad aj;have hB:=hs.B.C ad (Ne.symm hs.n1);have hz:=ad.size;refine Ad ?_;refine Df J UO (Ab J) (Ab J) J J hB J J ?_;intro am ae ao hB;have hb:=M1 (M1 hb ad hs.ad (fun k hk=>(hs.ht.lt k hk).1)) ae (by have:=hs.ad;omega) (fun k hk=>by injection hk with hk;have:=hs.hb;omega);have hs:=hs.bt (t:=⟨4,[59],p⟩) al ad aj ae hB;have g:=G.refl am;refine Ad ?_;refine Df J I2 (Ab J) (Ab J) J J (hs.A g).B J J ?_;intro ai aa af hB;have hb:=Sk hb g aa hs.ad hs.hb;have hs:=(hs.A g).a3 (q:=p+1) aa hB;refine Ai (Hh J ?_);refine ⟨rfl,?_,hb⟩;rw [ab] at hl ⊢;exact hs.aq hl O O k4;rw [CN (by intro h;rw [TI,h2] at h;cases h)] at ab;have hl:(Lr p (ac++[t])).length≤p+1:=by rw [ab];omega
 refine Ad ?_;refine Df J I2 (Ab J) (Ab J) J J (hs.A g).B J J ?_;intro ai aa af hB;have hb:=Sk hb g aa hs.ad hs.hb;have hs:=(hs.A g).a3 (q:=p+1) aa hB;refine Ai (Hh J ?_);refine ⟨rfl,?_,hb⟩;rw [ab] at hl ⊢;exact hs.aq hl O O k4;have hp:ts=[]:=List.eq_nil_of_length_eq_zero (by simp only [CB] at h1;omega);have ab:Lr p ts=ts:=by rw [hp];rfl
 have hl:(Lr p ts).length≤p+1:=by rw [ab];omega
 refine Ad ?_;refine Df J I2 (Ab J) (Ab J) J J (hs.A g).B J J ?_;intro ai aa af hB;have hb:=Sk hb g aa hs.ad hs.hb;have hs:=(hs.A g).a3 (q:=p+1) aa hB;refine Ai (Hh J ?_);refine ⟨rfl,?_,hb⟩;rw [ab] at hl ⊢;exact hs.aq hl O O k4
def DM(q:Int→Bool):List UInt8→Nat
 | []=>0
 | c::l=>if q c.toNat=true then DM q l+1 else 0
theorem jQ{q:Int→Bool}{s:List UInt8}{k:Nat}(h:k<s.length)(hq:q (s.getD k 0).toNat=true):DM q (s.drop k)=DM q (s.drop (k+1))+1:=by
 rw [Ju h,DM,CO (by simpa [CC,A2 h] using hq)]
theorem tM{q:Int→Bool}{s:List UInt8}{k:Nat}(h:k<s.length→q (s.getD k 0).toNat=false):DM q (s.drop k)=0:=by
 by_cases hk:k<s.length;rw [Ju hk,DM,CN];have:=h hk;simp [CC,A2 hk] at this;simp [this];rw [IM O];rfl
theorem sE(q:Int→Bool)(l:List UInt8):DM q l≤l.length:=by
 induction l with
 | nil=>exact Bu _
 | cons c l ih=>rw [DM];split <;> simp <;> omega
theorem VO(base b:Nat)(s:List UInt8)(p:Nat)(ts cs:List EF)(w:Ae)(hs:Mw base b s p ts cs w)(f:Nat)(q:Int→Bool)(ab:CD An f=true)(hf:∀ c w,Bz An f #[.int .u8 c] w fun v w'=>v = .bool (q c)∧G w w') :
 Bz An 176 #[.pointer (some ⟨b,0,none⟩),.func (.func f) #[] #[]] w fun v w'=>v = .int .i64 (DM q (s.drop p))∧G w w':=by
 obtain ⟨ta,tc,ca,cc,hs,k1,k2,k3,k4⟩:=hs.sa;have g:=G.refl w;refine Cu 36 [0,1] Tryz.func176 ?_;refine Ad ?_;refine PM (fun (n:Nat) u=>p+n≤s.length∧DM q (s.drop p)=n+DM q (s.drop (p+n))∧G w u) (fun n=>[(0,True,.pointer (some ⟨b,0,none⟩)),(1,True,.func (.func f) #[] #[]),(5,True,.int .i64 n)]) (fun n=>s.length-n) 0 ⟨O,by simp,g⟩ Bp ?_;rintro n u ⟨hn,he,g⟩;refine Ad ?_;refine Dj [3,3,3,0,3,3,3,3,3,0,3,3,3,3,3,3,3,0,3,3,3,0,3,3,3,1,3] ?_;have g:=HG g;refine Ad ?_;refine Ay J J J (fun _=>OA JW (Ah J id) (Ah J id) (fun hc=>by have:=AH hc.2;omega)) (Ff J J J (fun _=>(BF ab (Ah J id) (CM (Ah J id) (DC)) J)) (fun hc=>hf _ _) (fun ad ac=>?_));have g:=g.trans ac;refine Aw (fun h1=>?_) fun h1=>?_;simp only [Du,BM] at h1;obtain ⟨h1,h2⟩:=h1;have e:((p:Int)+n).toNat=p+n:=by omega
 rw [e] at h2;have aa:=jQ O h2;refine Ad ?_;refine Ci [0,1,5] ?_;refine Ai (fun a ha=>?_);exact ⟨n+1,ha,⟨O,by rw [he,aa,Nat.add_assoc p n 1];omega,g⟩,O⟩
 have aa:DM q (s.drop (p+n))=0:=tM fun hk=>by
  have e:((p:Int)+n).toNat=p+n:=by omega
  rw [e,BU (by omega:(p:Int)+n<s.length),GN] at h1;exact h1
 refine AN ?_;refine ⟨?_,g⟩;rw [he,aa];rfl
end Go.Rk
namespace Go.Rk
open Go.Proofs
open Go Go.Shelf Go.RowKit
def lV:Go.Shelf.Ren:=⟨fun|174=>183|247=>187|245=>188|287=>189|279=>190|280=>191|281=>192|282=>193|321=>194|322=>195|316=>196|171=>198|205=>197|243=>199|246=>200|283=>201|284=>202|285=>203|286=>204|129=>206|317=>205|318=>207|319=>208|320=>209|337=>210|338=>211|n=>n,fun|9=>9|3=>3|2=>2|75=>146|85=>147|4=>4|167=>152|5=>5|53=>120|175=>153|46=>155|168=>156|37=>160|0=>0|210=>162|21=>21|127=>164|145=>167|143=>165|171=>169|173=>172|212=>176|51=>177|20=>20|213=>178|232=>181|233=>182|80=>92|n=>n,fun|15=>8|16=>9|17=>10|18=>11|19=>12|n=>n⟩
theorem iJ:Go.Proofs.LaysC.n174 An lV:={
 mixed:=Ag
 f129:=Tryz.func206.trans (congrArg some Ag)
 f171:=Tryz.func198.trans (congrArg some Ag)
 f174:=Tryz.func183.trans (congrArg some Ag)
 f205:=Tryz.func197.trans (congrArg some Ag)
 f243:=Tryz.func199.trans (congrArg some Ag)
 f245:=Tryz.func188.trans (congrArg some Ag)
 f246:=Tryz.func200.trans (congrArg some Ag)
 f247:=Tryz.func187.trans (congrArg some Ag)
 f279:=Tryz.func190.trans (congrArg some Ag)
 f280:=Tryz.func191.trans (congrArg some Ag)
 f281:=Tryz.func192.trans (congrArg some Ag)
 f282:=Tryz.func193.trans (congrArg some Ag)
 f283:=Tryz.func201.trans (congrArg some Ag)
 f284:=Tryz.func202.trans (congrArg some Ag)
 f285:=Tryz.func203.trans (congrArg some Ag)
 f286:=Tryz.func204.trans (congrArg some Ag)
 f287:=Tryz.func189.trans (congrArg some Ag)
 f316:=Tryz.func196.trans (congrArg some Ag)
 f317:=Tryz.func205.trans (congrArg some Ag)
 f318:=Tryz.func207.trans (congrArg some Ag)
 f319:=Tryz.func208.trans (congrArg some Ag)
 f320:=Tryz.func209.trans (congrArg some Ag)
 f321:=Tryz.func194.trans (congrArg some Ag)
 f322:=Tryz.func195.trans (congrArg some Ag)
 f337:=Tryz.func210.trans (congrArg some Ag)
 f338:=Tryz.func211.trans (congrArg some Ag)
 t0:=Tryz.underlying0
 a0:=Tryz.isAgg0
 z0:=Tryz.sizeOf0
 v0:=Tryz.zeroValue0
 t2:=Tryz.underlying2
 a2:=Tryz.isAgg2
 z2:=Tryz.sizeOf2
 v2:=Tryz.zeroValue2
 t3:=Tryz.underlying3
 a3:=Tryz.isAgg3
 z3:=Tryz.sizeOf3
 v3:=Tryz.zeroValue3
 t4:=Tryz.underlying4
 a4:=Tryz.isAgg4
 z4:=Tryz.sizeOf4
 v4:=Tryz.zeroValue4
 t5:=Tryz.underlying5
 a5:=Tryz.isAgg5
 z5:=Tryz.sizeOf5
 v5:=Tryz.zeroValue5
 t9:=Tryz.underlying9
 a9:=Tryz.isAgg9
 z9:=Tryz.sizeOf9
 v9:=Tryz.zeroValue9
 t20:=Tryz.underlying20
 a20:=Tryz.isAgg20
 z20:=Tryz.sizeOf20
 v20:=Tryz.zeroValue20
 t21:=Tryz.underlying21
 a21:=Tryz.isAgg21
 z21:=Tryz.sizeOf21
 v21:=Tryz.zeroValue21
 t37:=Tryz.underlying160
 a37:=Tryz.isAgg160
 z37:=Tryz.sizeOf160
 v37:=Tryz.zeroValue160
 t46:=Tryz.underlying155
 a46:=Tryz.isAgg155
 z46:=Tryz.sizeOf155
 v46:=Tryz.zeroValue155
 t51:=Tryz.underlying177
 a51:=Tryz.isAgg177
 z51:=Tryz.sizeOf177
 v51:=Tryz.zeroValue177
 t53:=Tryz.underlying120
 a53:=Tryz.isAgg120
 z53:=Tryz.sizeOf120
 v53:=Tryz.zeroValue120
 t75:=Tryz.underlying146
 a75:=Tryz.isAgg146
 z75:=Tryz.sizeOf146
 v75:=Tryz.zeroValue146
 t85:=Tryz.underlying147
 a85:=Tryz.isAgg147
 z85:=Tryz.sizeOf147
 v85:=Tryz.zeroValue147
 t127:=Tryz.underlying164
 a127:=Tryz.isAgg164
 z127:=Tryz.sizeOf164
 v127:=Tryz.zeroValue164
 t143:=Tryz.underlying165
 a143:=Tryz.isAgg165
 z143:=Tryz.sizeOf165
 v143:=Tryz.zeroValue165
 t145:=Tryz.underlying167
 a145:=Tryz.isAgg167
 z145:=Tryz.sizeOf167
 v145:=Tryz.zeroValue167
 t167:=Tryz.underlying152
 a167:=Tryz.isAgg152
 z167:=Tryz.sizeOf152
 v167:=Tryz.zeroValue152
 t168:=Tryz.underlying156
 a168:=Tryz.isAgg156
 z168:=Tryz.sizeOf156
 v168:=Tryz.zeroValue156
 t171:=Tryz.underlying169
 a171:=Tryz.isAgg169
 z171:=Tryz.sizeOf169
 v171:=Tryz.zeroValue169
 t173:=Tryz.underlying172
 a173:=Tryz.isAgg172
 z173:=Tryz.sizeOf172
 v173:=Tryz.zeroValue172
 t175:=Tryz.underlying153
 a175:=Tryz.isAgg153
 z175:=Tryz.sizeOf153
 v175:=Tryz.zeroValue153
 t210:=Tryz.underlying162
 a210:=Tryz.isAgg162
 z210:=Tryz.sizeOf162
 v210:=Tryz.zeroValue162
 t212:=Tryz.underlying176
 a212:=Tryz.isAgg176
 z212:=Tryz.sizeOf176
 v212:=Tryz.zeroValue176
 t213:=Tryz.underlying178
 a213:=Tryz.isAgg178
 z213:=Tryz.sizeOf178
 t232:=Tryz.underlying181
 a232:=Tryz.isAgg181
 z232:=Tryz.sizeOf181
 v232:=Tryz.zeroValue181
 t233:=Tryz.underlying182
 a233:=Tryz.isAgg182
 z233:=Tryz.sizeOf182
 v233:=Tryz.zeroValue182
 g15:=Ag
 g16:=Ag
 g17:=Ag
 g18:=Ag
 g19:=Ag
 t80:=Tryz.underlying92
 a80:=Tryz.isAgg92
 z80:=Tryz.sizeOf92
 v80:=Tryz.zeroValue92
 i0:=Ag
 i2:=Ag
 i3:=Ag
 i4:=Ag
 i5:=Ag
 i9:=Ag
 i20:=Ag
 i21:=Ag
 i37:=Ag
 i46:=Ag
 i51:=Ag
 i53:=Ag
 i75:=Ag
 i80:=Ag
 i85:=Ag
 i127:=Ag
 i143:=Ag
 i145:=Ag
 i167:=Ag
 i168:=Ag
 i171:=Ag
 i173:=Ag
 i175:=Ag
 i210:=Ag
 i212:=Ag
 i232:=Ag
 i233:=Ag
 m15:=Ag
 m16:=Ag
 m17:=Ag
 m18:=Ag
 m19:=Ag
 c0:=Ag
 c2:=Ag
 c3:=Ag
 c4:=Ag
 c5:=Ag
 c9:=Ag
 c20:=Ag
 c21:=Ag
 c37:=Ag
 c46:=Ag
 c51:=Ag
 c53:=Ag
 c75:=Ag
 c80:=Ag
 c85:=Ag
 c127:=Ag
 c143:=Ag
 c145:=Ag
 c167:=Ag
 c168:=Ag
 c171:=Ag
 c173:=Ag
 c175:=Ag
 c210:=Ag
 c212:=Ag
 c213:=Ag
 c232:=Ag
 c233:=by kernel_rfl }
def Jw(a:Nat)(l:List UInt8):Nat:=l.foldl (fun a c=>a*10+(c.toNat-48)) a
def Ty(l:List UInt8):Prop:=∀ c∈l,48≤c.toNat∧c.toNat≤57
theorem jB(a:Nat)(c:UInt8)(l:List UInt8):Jw a (c::l)=Jw (a*10+(c.toNat-48)) l:=List.foldl_cons ..
theorem qS(l:List UInt8):∀ a,a≤Jw a l:=by
 induction l with
 | nil=>exact fun a=>Bu _
 | cons c l ih=>intro a;have:=ih (a*10+(c.toNat-48));rw [jB];omega
theorem ZI(M:Nat)(hM:M=18446744073709551615):∀ (l:List UInt8) (a:Nat),Ty l→Lib.parseUintM M a l=if l=[] then .ok a else if Jw a l≤M then .ok (Jw a l) else .range
 | [],a,_=>rfl
 | c::l,a,h=>by
  have hc:=h c (F3 ..);have ih:=ZI M hM l (a*10+(c.toNat-48)) (fun x hx=>h x (Jz _ hx));have aa:=qS l (a*10+(c.toNat-48));rw [CN (by simp:¬ (c::l)=[]),jB];rw [Lib.parseUintM,CO hc];generalize hv:a*10+(c.toNat-48)=v at ih aa ⊢;by_cases h1:1844674407370955162≤a;rw [CO h1,CN O];rw [CN h1];by_cases h2:M<v;rw [CO h2,CN O];rw [CN h2,ih];by_cases hl:l=[];subst hl;rw [CO rfl];rw [CO (show Jw v []≤M by show v≤M;omega)];rfl;rw [CN hl]
theorem yT(l:List UInt8)(h:Ty l)(aa:l≠[]):Lib.parseIntB 64 l=if Jw 0 l<9223372036854775808 then .ok (Jw 0 l:Int) else .range:=by
 cases l with
 | nil=>exact absurd rfl aa
 | cons c r =>
  have hc:=h c (F3 ..);have AU:(2:Nat) ^ (64-1)=9223372036854775808:=by decide
  have e2:(2:Nat) ^ 64-1=18446744073709551615:=by decide
  have hm:=ZI _ rfl (c::r) 0 h;rw [CN (by simp:¬ (c::r)=[])] at hm;simp only [Lib.parseIntB,Lib.parseUintB,AU,e2];rw [CN (by omega:¬ (c.toNat=43∨c.toNat=45)),CN (by simp:¬ (c::r)=[]),hm];by_cases h2:Jw 0 (c::r)≤18446744073709551615;rw [CO h2];by_cases h3:Jw 0 (c::r)<9223372036854775808;rw [CO h3];simp only [];rw [CN O,CN O,CN O];rw [CN h3];simp only [];rw [CO O];rw [CN h2,CN O]
theorem xV(l:List UInt8)(h:Ty l)(ab:l≠[])(hl:l.length≤20000)(w:Ae)(GE:Aj)(hv:w.cell? ⟨9,0,none⟩=some GE)(aa:GE = .nilIface∨∃ te pe,GE = .iface te pe) :
 Bz An 183 #[Cg l,.int .i64 10,.int .i64 64] w fun v w'=>(∃ x e,v = .tuple #[.int .i64 x,e]∧(e = .nilIface∨∃ a b,e = .iface a b)∧Pa e=Ac (Jw 0 l<9223372036854775808))∧G w w':=by
 have hp:=yT l h ab;by_cases h3:Jw 0 l<9223372036854775808;rw [CO h3] at hp;refine (Go.Proofs.Any.strconv_ParseInt_10_at64_ok iJ ⟨l.toArray⟩ (by simp [ByteArray.size];omega) _ (by simpa using hp) w).mono ?_;rintro e w' ⟨rfl,hw⟩;refine ⟨_,rfl,⟨_,.nilIface,rfl,.inl rfl,by rw [BU h3];rfl⟩,?_⟩;rcases hw with rfl|⟨t,rfl⟩;exact G.refl _;exact Lib.bytesWorld_below _ _ _;rw [CN h3] at hp;refine (Go.Proofs.Any.strconv_ParseInt_10_at64_range iJ ⟨l.toArray⟩ (by simp [ByteArray.size];omega) (by simpa using hp) GE w hv aa).mono ?_;rintro e w' ⟨N,rfl,_,_,hb⟩;exact ⟨_,rfl,⟨_,_,rfl,.inr ⟨_,_,rfl⟩,by rw [Aq h3];rfl⟩,hb⟩
end Go.Rk
namespace Go.Rk
open Go.Proofs
open Go Go.RowKit
def HD:List (List UInt8):=[[58,61],[61,61],[33,61],[60,61],[62,61],[38,38],[124,124],[60,45],[40],[41],[91],[93],[123],[125],[44],[59],[58],[46],[61],[60],[62],[43],[45],[42],[47],[37],[33]]
structure Laid (w:Ae):Prop where
  ops:CQ w 7 0 (HD.map Cg)
  err:∃ GE,w.cell? ⟨9,0,none⟩=some GE∧(GE = .nilIface∨∃ te pe,GE = .iface te pe)
theorem Laid.below{w w':Ae}{base:Nat}(h:Laid w)(hb:10≤base)(g:Below base w w'):Laid w' :=
 ⟨fun j v hj=>(Below.cell g (show 7<base by omega)).trans (h.ops j v hj),by
 obtain ⟨GE,h1,h2⟩:=h.err;exact ⟨GE,(Below.cell g (show 9<base by omega)).trans h1,h2⟩⟩
theorem Laid.A{w w':Ae}(h:Laid w)(g:G w w'):Laid w' :=
 ⟨h.ops.A g,by
 obtain ⟨GE,h1,h2⟩:=h.err;exact ⟨GE,SA g h1,h2⟩⟩
def EK(s:List UInt8)(p:Nat):Int:=((s.getD p 0).toNat:Int)
def KW(c:Int):Bool:=!Ac (c=10)
def G9(c:Int):Bool:=I8 c || Fx c
def ML(l:List UInt8):Nat:=match HD.find? (fun o=>I3 o l) with
 | some o=>o.length
 | none=>0
def RP(s:List UInt8)(p n:Nat):Bool:=(Ac (EK s p=48)&&Ac ((1:Int)<n)) || (Ac ((p:Int)+n<s.length)&&I8 (EK s (p+n)))
def SB(l:List UInt8):Int:=bif Jk KM l then 3 else 1
def Fq(s:List UInt8)(p:Nat)(ts cs:List EF):Nat×List EF×List EF×Int :=
 bif Ac (EK s p=10) then (p+1,Lr p ts,cs,0)
 else bif (Ac (EK s p=32) || Ac (EK s p=9)) || Ac (EK s p=13) then (p+1,ts,cs,0)
 else bif I3 [47,47] (s.drop p) then (p+DM KW (s.drop p),ts,cs++[⟨5,(s.drop p).take (DM KW (s.drop p)),p⟩],0)
 else bif I8 (EK s p) then bif Ac ((32:Int)<DM G9 (s.drop p)) then (p,ts,cs,3)
  else (p+DM G9 (s.drop p),ts++[⟨SB ((s.drop p).take (DM G9 (s.drop p))),(s.drop p).take (DM G9 (s.drop p)),p⟩],cs,0)
 else bif Fx (EK s p) then bif RP s p (DM Fx (s.drop p)) then (p,ts,cs,4)
  else bif Ac (Jw 0 ((s.drop p).take (DM Fx (s.drop p)))<9223372036854775808) then (p+DM Fx (s.drop p),ts++[⟨2,(s.drop p).take (DM Fx (s.drop p)),p⟩],cs,0) else (p,ts,cs,4)
 else bif Ao (ML (s.drop p)) 0 then (p,ts,cs,4)
 else (p+ML (s.drop p),ts++[⟨4,(s.drop p).take (ML (s.drop p)),p⟩],cs,0)
theorem PE{q:Int→Bool}{s:List UInt8}{p:Nat}(h:p<s.length)(hq:q (EK s p)=true):1≤DM q (s.drop p):=by rw [jQ h hq];omega
theorem Ut(q:Int→Bool){s:List UInt8}{p:Nat}(h:p<s.length):p+DM q (s.drop p)≤s.length:=by
 have:=sE q (s.drop p);rw [Gc] at this;omega
theorem U2(q:Int→Bool):∀ (l:List UInt8),∀ c∈l.take (DM q l),q c.toNat=true
 | [],c,hc=>by cases hc
 | a::l,c,hc=>by
  rw [DM] at hc;split at hc;rename_i h;rw [Kh] at hc;rcases List.mem_cons.mp hc with rfl|hc;exact h;exact U2 q l c hc;cases hc
theorem Afd(s:List UInt8)(p:Nat):Ty ((s.drop p).take (DM Fx (s.drop p))):=fun c hc=>by
 have:=U2 Fx _ c hc;simp only [Fx,Du,BM] at this;omega
theorem Afo{i:Nat}(h:i<27):(HD.map Cg).toArray[i]? = some (Cg (HD.getD i [])):=by
 have hl:HD.length=27:=rfl;simp [CC,A2 (show i<HD.length by omega)]
theorem Afh:∀ i<27,1≤(HD.getD i []).length:=by decide
theorem zC{l:List UInt8}{i:Nat}(h:i<27)(h1:∀ j<i,I3 (HD.getD j []) l=false)(h2:I3 (HD.getD i []) l=true):ML l=(HD.getD i []).length:=by
 have hl:HD.length=27:=rfl
 have:HD.find? (fun o=>I3 o l)=some (HD.getD i []):=by
  rw [Lo];refine ⟨h2,i,O,?_,fun j hj=>?_⟩;simp [CC,A2 (show i<HD.length by omega)];have:=h1 j hj;simp [CC,A2 (show j<HD.length by omega)] at this;simp [this]
 rw [ML,this]
theorem Afu{l:List UInt8}(h1:∀ j<27,I3 (HD.getD j []) l=false):ML l=0:=by
 have hl:HD.length=27:=rfl
 have:HD.find? (fun o=>I3 o l)=none:=by
  rw [Kp];intro o ho;obtain ⟨j,hj,rfl⟩:=Gq ho;have:=h1 j O;simp [CC,A2 hj] at this;simp [this]
 rw [ML,this]
theorem xM{o l:List UInt8}(h:I3 o l=true):o.length≤l.length∧l.take o.length=o:=by
 simpa [I3] using h
theorem nE(base b:Nat)(bv:10≤base)(s:List UInt8)(p:Nat)(ts cs:List EF)(w:Ae)(hL:Laid w)(hs:Mw base b s p ts cs w)(hp:p<s.length) :
 Bz An 168 #[.pointer (some ⟨b,0,none⟩)] w fun v w'=>v = .int .i64 (Fq s p ts cs).2.2.2∧Mw base b s (Fq s p ts cs).1 (Fq s p ts cs).2.1 (Fq s p ts cs).2.2.1 w'∧Below base w w':=by
 obtain ⟨ta,tc,ca,cc,hs,k1,k2,k3,k4⟩:=hs.sa;have g:=G.refl w;refine JB (m:=204) Tryz.func168 J J [(0,True,_)] Bp ?_;refine Am (Au (Bj J (Ai (Al (Am (Dj [3,3,3,0,3,3,3,0,3,3] ?_))))));have g:=HG g;refine Ap J (C1 J (AE Nc J (AM DW J (by first|exact (hs.A g).B.y J) (Ap J (C1 J (AE Ib J (AM Cb J (by first|exact (hs.A g).B.y J) (AR J (fun _=>OA JW (Ab J) (Ab J) (fun _=>O)) (Bj J (Ai (Al (Am (DF (Am (Au (Ap J (?_)))))))))))))))));refine Fy J J (Bj J (Ai (Al (Cv J (fun h1=>?_) (fun h1=>?_)))));have h1:Ac (EK s p=10)=true:=h1;have hN:Fq s p ts cs=(p+1,Lr p ts,cs,0):=by unfold Fq;rw [h1];rfl
 refine Au (Ap J (AO (Aav base b s p ts cs _ ((hs.A g).aq k1 k2 k3 k4) hp) ?_));rintro b0 bt ⟨rfl,ab,aa⟩;refine ⟨Fa,?_⟩;have aa:=(LA g hs.ad).trans aa;refine Ai (Al (Am (Au (Bj J (Ai (Al (Dl (Fp J J ?_))))))));rw [hN];exact ⟨rfl,ab,aa⟩;have h1:Ac (EK s p=10)=false:=h1;refine Am (Au (Ap J (Fy J J (Ap J (Ay J J J (Bm J) (Ay J J J (fun _=>Gk (Ah J id) Bd) (AR J (fun _=>FR (Ab J) (Ah J id)) (Ap J (Ay J J J (Bm J) (Ay J J J (fun _=>Gk (Ah J id) Bd) (AR J (fun _=>FR (Ab J) (Ah J id)) (Bj J (Ai (Al (Cv J (fun h2=>?_) (fun h2=>?_))))))))))))))));have h2:((Ac (EK s p=32) || Ac (EK s p=9)) || Ac (EK s p=13))=true:=h2;have hN:Fq s p ts cs=(p+1,ts,cs,0):=by unfold Fq;rw [h1,h2];rfl
 refine Au (Ap J (C1 J (AE Ib J (AM Cb J (by first|exact (hs.A g).B.y J) (H2 J J O (C1 J (AE Ib J (Df J I2 (Ab J) (Ab J) J J (hs.A g).B J J ?_))))))));intro bs aj bc hB;have aa:=Sk (Below.refl _ _) g aj hs.ad hs.hb;have ab:=((hs.A g).a3 (q:=p+1) aj hB).aq O O O k4;refine Ai (Al (Am (Au (Bj J (Ai (Al (Dl (Fp J J ?_))))))));rw [hN];exact ⟨rfl,ab,aa⟩;have h2:((Ac (EK s p=32) || Ac (EK s p=9)) || Ac (EK s p=13))=false:=h2;refine Am (Dj [3,3,3,0,3,3,3,0,3,1,3] ?_);have g:=HG g;refine Ap J (C1 J (AE Nc J (AM DW J (by first|exact (hs.A g).B.y J) (Ap J (C1 J (AE Ib J (AM Cb J (by first|exact (hs.A g).B.y J) (AR J (fun _=>W8 JW (Ab J) (Ab J) (fun _=>O)) (F0 J (BF iO BX (Cn J (Cn J CI)) J) (iB _ _ _) (fun bu a4=>?_))))))))));have g:=g.trans a4;refine Bj J (Ai (Al (Cv J (fun h3=>?_) (fun h3=>?_))));have h3:I3 [47,47] (s.drop p)=true:=h3;have hn:=PE (q:=KW) hp (by rw [KW,h1];rfl);have hf:=Ut KW hp;have hN:Fq s p ts cs=(p+DM KW (s.drop p),ts,cs++[⟨5,(s.drop p).take (DM KW (s.drop p)),p⟩],0):=by unfold Fq;rw [h1,h2,h3];rfl
 have e:((p:Int)+(DM KW (s.drop p):Nat)).toNat-(p:Int).toNat=DM KW (s.drop p):=by omega
 refine Am (Au (Ap J (F0 J (BF Wt BX (Cn J (Cn J CI)) J) (VO base b s p ts cs _ ((hs.A g).aq k1 k2 k3 k4) _ KW Afb Abr) (fun bz a8=>?_))));have g:=g.trans a8;refine Bj J (Ai (Al (Am (Dj [3,3,3,3,0,3,3,3,0,3,3,3,0,3,3,3,0,3,3,3,3,3,3,0,3,1,2,3,3,2] ?_))));have g:=HG g;refine Ap J (Ap J (C1 J (AE XK J (AM O9 J (by first|exact (hs.A g).B.y J) (Ap J (C1 J (AE Nc J (AM DW J (by first|exact (hs.A g).B.y J) (Ap J (C1 J (AE Ib J (AM Cb J (by first|exact (hs.A g).B.y J) (Ap J (C1 J (AE Ib J (?_))))))))))))))));refine AM Cb J (by first|exact (hs.A g).B.y J) (Ap J (H2 J J O (AR J (fun _=>Qw JW (Ab J) (Ab J) (Ab J) (fun _=>O)) (Ap J (C1 J (AE Ib J (AM Cb J (by first|exact (hs.A g).B.y J) (Hg Oj UM (Bk J (Bk J (Bk J CH))) J J (VN fun _ _ ao _ g E=>?_)))))))));have hb:=LA g hs.ad;have hs:=hs.A g;have br:=hs.ad;refine Ja J MG Oj J BT (Ab J) hs.hc (Ab J) J ao.H.row J (by simp only [maxLen];omega) O O ?_;intro bq bw bj am ac a6;have hB:=hs.B.C ac (Ne.symm hs.n2);have hz:=ac.size;refine C1 J (AE XK J (Df J UO (Ab J) (Ab J) J J hB J J ?_));intro ax ag az hB
 have hb:=M1 (M1 hb ac hs.ad (fun k hk=>(hs.hc.lt k hk).1)) ag (by have:=hs.ad;omega) (fun k hk=>by injection hk with hk;have:=hs.hb;omega);rw [e] at am;have hs:=hs.b0 (t:=⟨5,(s.drop p).take (DM KW (s.drop p)),p⟩) am ac a6 ag hB;have g:=G.refl ax;refine Ai (Al (Au (Ap J (C1 J (AE Ib J (AM Cb J (by first|exact (hs.A g).B.y J|exact E.J.y J|exact E.J.row) (Ap J (H2 J J O (C1 J (AE Ib J (Df J I2 (Ab J) (Ab J) J J (hs.A g).B J J ?_)))))))))));intro ba ah a3 hB;have aa:=Sk hb g ah hs.ad hs.hb;have ab:=((hs.A g).a3 (q:=p+DM KW (s.drop p)) ah hB).aq O (by rw [DQ];show cs.length+1≤_;omega) hf k4;refine EV [(2,_,_)] Bp (Ai (Al (Am (Au (Bj J (Ai (Al (Dl (Fp J J ?_)))))))));rw [hN];exact ⟨rfl,ab,aa⟩;have h3:I3 [47,47] (s.drop p)=false:=h3;refine Am (Au (Ap J (F0 J (BF bF BX (Cn J CI) J) (WO _ _) (fun be aq=>?_))));have g:=g.trans aq;refine Bj J (Ai (Al (Cv J (fun h4=>?_) (fun h4=>?_))));have h4:I8 (EK s p)=true:=h4;have hn:=PE (q:=G9) hp (by rw [G9,h4];rfl);have hf:=Ut G9 hp;have e:((p:Int)+(DM G9 (s.drop p):Nat)).toNat-(p:Int).toNat=DM G9 (s.drop p):=by omega
 refine Am (Au (Ap J (F0 J (BF Wt BX (Cn J (Cn J CI)) J) (VO base b s p ts cs _ ((hs.A g).aq k1 k2 k3 k4) _ G9 Adt vQ) (fun bn ay=>?_))));have g:=g.trans ay;refine Bj J (Ai (Al (Am (Am (Au (Ap J (SI J J (Ai (Al (Cv J (fun h5=>?_) (fun h5=>?_)))))))))));have hN:Fq s p ts cs=(p,ts,cs,3):=by unfold Fq;rw [h1,h2,h3,h4,h5];rfl
 have ab:=(hs.A g).aq k1 k2 k3 k4;have aa:=LA g hs.ad;refine Am (Au (Bj J (Ai (Al (Dl (Fp J J ?_))))));rw [hN];exact ⟨rfl,ab,aa⟩;refine CJ (Al (Am (Au (Bj J (Ai (Al (Am (Am (Dj [3,3,3,0,3,3,3,0,3,3,3,0,3,3,3,1] ?_)))))))));have g:=HG g;refine Ap J (C1 J (AE Nc J (AM DW J (by first|exact (hs.A g).B.y J) (Ap J (C1 J (AE Ib J (AM Cb J (by first|exact (hs.A g).B.y J) (Ap J (C1 J (AE Ib J (AM Cb J (by first|exact (hs.A g).B.y J) (Ap J (H2 J J O (AR J (fun _=>Qw JW (Ab J) (Ab J) (Ab J) (fun _=>O)) (F0 J (BF nU BX (Cn J CI) J) (nL _ _) (fun bb av=>?_))))))))))))))));have g:=g.trans av;refine Ai (Al (Cv J (fun h6=>?_) (fun h6=>?_)));rw [e] at h6;have h6:Jk KM ((s.drop p).take (DM G9 (s.drop p)))=true:=h6;have hN:Fq s p ts cs=(p+DM G9 (s.drop p),ts++[⟨3,(s.drop p).take (DM G9 (s.drop p)),p⟩],cs,0):=by unfold Fq;rw [h1,h2,h3,h4,h5,SB,h6];rfl
 refine Au (Bj J (Ai (Al (Au (Ap J (Ap J (Ap J (AO (Tr base b s p ts cs _ _ _ ((hs.A g).aq k1 k2 k3 k4) hn hf) ?_))))))));rintro al ap ⟨rfl,ab,aa⟩;refine ⟨Fa,?_⟩;have aa:=(LA g hs.ad).trans aa;refine Ai (Al (Am (Au (Bj J (Ai (Al (Dl (Fp J J ?_))))))));rw [hN];exact ⟨rfl,ab,aa⟩;rw [e] at h6;have h6:Jk KM ((s.drop p).take (DM G9 (s.drop p)))=false:=h6;have hN:Fq s p ts cs=(p+DM G9 (s.drop p),ts++[⟨1,(s.drop p).take (DM G9 (s.drop p)),p⟩],cs,0):=by unfold Fq;rw [h1,h2,h3,h4,h5,SB,h6];rfl
 refine CJ (Al (Au (Ap J (Ap J (Ap J (AO (Tr base b s p ts cs _ _ _ ((hs.A g).aq k1 k2 k3 k4) hn hf) ?_))))));rintro al ap ⟨rfl,ab,aa⟩;refine ⟨Fa,?_⟩;have aa:=(LA g hs.ad).trans aa;refine Ai (Al (Am (Au (Bj J (Ai (Al (Dl (Fp J J ?_))))))));rw [hN];exact ⟨rfl,ab,aa⟩;have h4:I8 (EK s p)=false:=h4;refine Am (Au (Ap J (F0 J (BF fB BX (Cn J CI) J) (VZ _ _) (fun bo an=>?_))));have g:=g.trans an;refine Bj J (Ai (Al (Cv J (fun h7=>?_) (fun h7=>?_))));have h7:Fx (EK s p)=true:=h7;have hn:=PE (q:=Fx) hp h7;have hf:=Ut Fx hp;have e:((p:Int)+(DM Fx (s.drop p):Nat)).toNat-(p:Int).toNat=DM Fx (s.drop p):=by omega
 refine Am (Au (Ap J (F0 J (BF Wt BX (Cn J (Cn J CI)) J) (VO base b s p ts cs _ ((hs.A g).aq k1 k2 k3 k4) _ Fx fB VZ) (fun bg au=>?_))));have g:=g.trans au;refine Bj J (Ai (Al (Am (Am (Dj [3,3,3,3,3,3,3,3,3,3,0,3,3,3,3,3,0,3,3,3,3,3,3,0,3,3,3,0,3,3,3,1,3,3] ?_)))));have g:=HG g;refine Ap J (Fy J J (Ap J (Ay J J J (Bm J) (Ay J J J (fun _=>QV (Ah J id) Bd) (AR J (fun _=>Et (Ab J) (Ah J id)) (Ap J (Ay J J J (Bm J) (Ay J J J (fun _=>FZ (Ah J id)) (Ay J J J (fun _=>AB Ib (Ah J id)) (BQ J J J (AZ Cb (Ah J id) (fun _=>by first|exact (hs.A g).B.y J)) (Ay J J J (Bm J) (Ay J J J (fun _=>Uo (Ah J id) (Ah J id) (fun _=>O)) (Ay J J J (Bm J) (Ay J J J (fun _=>FZ (Ah J id)) (Ay J J J (fun _=>AB Nc (Ah J id)) (?_))))))))))))))))
 refine BQ J J J (AZ DW (Ah J id) (fun _=>by first|exact (hs.A g).B.y J)) (Ay J J J (fun _=>Rv JW (Ah J id)) (Ay J J J (fun _=>Q5 (Ah J id) (Ah J id)) (Ay J J J (fun _=>J1 (Ah J id)) (Ay J J J (Bm J) (Ay J J J (fun _=>FZ (Ah J id)) (Ay J J J (fun _=>AB Nc (Ah J id)) (BQ J J J (AZ DW (Ah J id) (fun _=>by first|exact (hs.A g).B.y J)) (Ay J J J (Bm J) (Ay J J J (fun _=>FZ (Ah J id)) (Ay J J J (fun _=>AB Ib (Ah J id)) (BQ J J J (AZ Cb (Ah J id) (fun _=>by first|exact (hs.A g).B.y J)) (Ay J J J (Bm J) (Ay J J J (fun _=>Uo (Ah J id) (Ah J id) (fun _=>O)) (Ay J J J (fun _=>OA JW (Ah J id) (Ah J id) (fun hc=>by have:=AH hc.2;omega)) (Ff J J J (fun _=>(BF bF BX (CM (Ah J id) (DC)) J)) (fun hc=>WO _ _) (fun bk ar=>?_))))))))))))))));have g:=g.trans ar;refine Ay J J J (fun _=>Et (Ah J id) (Ah J id)) (AR J (fun _=>FR (Ab J) (Ah J id)) (EV [(0,_,_),(2,_,_),(7,_,_),(179,_,_)] Bp (Ai (Al (Cv J (fun h8=>?_) (fun h8=>?_))))));have h8:RP s p (DM Fx (s.drop p))=true:=h8;have hN:Fq s p ts cs=(p,ts,cs,4):=by unfold Fq;rw [h1,h2,h3,h4,h7,h8];rfl
 have ab:=(hs.A g).aq k1 k2 k3 k4;have aa:=LA g hs.ad;refine Am (Au (Bj J (Ai (Al (Dl (Fp J J ?_))))));rw [hN];exact ⟨rfl,ab,aa⟩;have h8:RP s p (DM Fx (s.drop p))=false:=h8;obtain ⟨GE,a2,a7⟩:=hL.err;have a1:((s.drop p).take (DM Fx (s.drop p))).length=DM Fx (s.drop p):=by rw [GZ,Gc];omega
 refine CJ (Al (Am (Am (Dj [3,3,3,0,3,3,3,0,3,3,3,0,3,3,3,1,3,3,3,3,3] ?_))));have g:=HG g;refine Ap J (C1 J (AE Nc J (AM DW J (by first|exact (hs.A g).B.y J) (Ap J (C1 J (AE Ib J (AM Cb J (by first|exact (hs.A g).B.y J) (Ap J (C1 J (AE Ib J (AM Cb J (by first|exact (hs.A g).B.y J) (Ap J (H2 J J O (AR J (fun _=>Qw JW (Ab J) (Ab J) (Ab J) (fun _=>O)) (EB J (BF Aac BX (Cn J (Cn J (Cn J CI))) J) (xV _ (by rw [e];exact Afd s p) (by rw [e];intro h0;have h0:=congrArg List.length h0;rw [show (List.take (DM Fx (s.drop p)) (List.drop (p:Int).toNat s)).length=DM Fx (s.drop p) from a1] at h0;simp at h0;omega) (by rw [e];show ((s.drop p).take (DM Fx (s.drop p))).length≤20000;omega) _ GE (SA g a2) a7) ?_)))))))))))))));rintro bf bi ⟨⟨x,er,rfl,a9,ad⟩,aw⟩;refine Ev aw fun g=>?_;replace ad:Pa er=Ac (Jw 0 ((s.drop p).take (DM Fx (s.drop p)))<9223372036854775808):=by rw [e] at ad;exact ad
 refine Ap J (FJ J J (FJ J J (Bj J (Bj J (Ai (Al (Am (Au (Ap J (AR J (fun _=>VS Yb (Ab J) a9) (Ai (Al (Cv J (fun h9=>?_) (fun h9=>?_))))))))))))));have h9:Ac (Jw 0 ((s.drop p).take (DM Fx (s.drop p)))<9223372036854775808)=false:=by have h9:(!Pa er)=true:=h9;rw [ad] at h9;simpa using h9
 have hN:Fq s p ts cs=(p,ts,cs,4):=by unfold Fq;rw [h1,h2,h3,h4,h7,h8,h9];rfl
 have ab:=(hs.A g).aq k1 k2 k3 k4;have aa:=LA g hs.ad;refine Am (Au (Bj J (Ai (Al (Dl (Fp J J ?_))))));rw [hN];exact ⟨rfl,ab,aa⟩;have h9:Ac (Jw 0 ((s.drop p).take (DM Fx (s.drop p)))<9223372036854775808)=true:=by have h9:(!Pa er)=false:=h9;rw [ad] at h9;simpa using h9
 have hN:Fq s p ts cs=(p+DM Fx (s.drop p),ts++[⟨2,(s.drop p).take (DM Fx (s.drop p)),p⟩],cs,0):=by unfold Fq;rw [h1,h2,h3,h4,h7,h8,h9];rfl
 refine CJ (Al (Au (Ap J (Ap J (AO (Tr base b s p ts cs _ _ _ ((hs.A g).aq k1 k2 k3 k4) hn hf) ?_)))));rintro bh bm ⟨rfl,ab,aa⟩;refine ⟨Fa,?_⟩;have aa:=(LA g hs.ad).trans aa;refine Ai (Al (Am (Au (Bj J (Ai (Al (Dl (Fp J J ?_))))))));rw [hN];exact ⟨rfl,ab,aa⟩;have h7:Fx (EK s p)=false:=h7;refine Am (Am (Au (Ct Yl J J ((hL.A g).ops) (Ap J (Ai (Al (DF (PM (fun (i:Nat) u=>i≤27∧(∀ j<i,I3 (HD.getD j []) (s.drop p)=false)∧G w u) (fun i=>[(0,True,.pointer (some ⟨b,0,none⟩)),(21,True,.agg (HD.map Cg).toArray),(22,True,.int .i64 i)]) (fun i=>27-i) 0 ⟨O,by intro j hj;omega,g⟩ Bp ?_))))))));rintro i u ⟨hi,ai,g⟩;refine Am (Au (GG J J (Ai (Al (Am (Cv J (fun ak=>?_) (fun ak=>?_)))))));simp only [BM] at ak;have ae:i<27:=by omega
 refine CJ (Al (Am (DF (Am (Au (AR J (fun _=>gK rM (Ab J) (Ab J) (fun _=>O) (fun _=>Afo ae)) (Bj J (Ai (Al (Am (Dj [3,3,3,0,3,3,3,0,3,3,1] ?_)))))))))));have g:=HG g;refine Ap J (C1 J (AE Nc J (AM DW J (by first|exact (hs.A g).B.y J) (Ap J (C1 J (AE Ib J (AM Cb J (by first|exact (hs.A g).B.y J) (AR J (fun _=>W8 JW (Ab J) (Ab J) (fun _=>O)) (Ap J (F0 J (BF iO BX (Cn J (Cn J CI)) J) (iB _ _ _) (fun b2 a5=>?_)))))))))));have g:=g.trans a5;refine Ai (Al (Cv J (fun af=>?_) (fun af=>?_)));have af:I3 (HD.getD i []) (s.drop p)=true:=af;have h0:=zC ae ai af;have hn:=Afh i ae;have hf:p+(HD.getD i []).length≤s.length:=by have:=(xM af).1;rw [Gc] at this;omega
 have hN:Fq s p ts cs=(p+(HD.getD i []).length,ts++[⟨4,(s.drop p).take (HD.getD i []).length,p⟩],cs,0):=by
  unfold Fq;rw [h1,h2,h3,h4,h7,h0,show Ao (HD.getD i []).length 0=false by rw [Bool.eq_false_iff];intro h;have:=KJ h;omega];rfl
 refine Am (Au (Ap J (Ap J (AR J (fun _=>Rv JW (Ab J)) (AO (Tr base b s p ts cs _ _ _ ((hs.A g).aq k1 k2 k3 k4) hn hf) ?_)))));rintro bp b1 ⟨rfl,ab,aa⟩;refine ⟨Fa,?_⟩;have aa:=(LA g hs.ad).trans aa;refine Ai (Al (Am (Au (Bj J (Ai (Al (Dl (Fp J J ?_))))))));rw [hN];exact ⟨rfl,ab,aa⟩;refine CJ (Al (Au (H2 J J O (Ap J (EV [(0,_,_),(21,_,_),(22,_,_)] Bp (Ai (fun a ha=>?_)))))))
 exact ⟨i+1,ha,⟨O,by
  intro j hj;by_cases e:j=i;rw [e];exact af;exact ai j O,g⟩,O⟩
 simp only [CB] at ak;have ae:i=27:=by omega
 subst ae;have h0:=Afu ai;have hN:Fq s p ts cs=(p,ts,cs,4):=by unfold Fq;rw [h1,h2,h3,h4,h7,h0];rfl
 have ab:=(hs.A g).aq k1 k2 k3 k4;have aa:=LA g hs.ad;refine L7 J (Al (Am (Au (Bj J (Ai (Al (Dl (Fp J J ?_))))))));rw [hN];exact ⟨rfl,ab,aa⟩
def Kx(s:List UInt8):Nat→Nat→List EF→List EF→Nat×List EF×List EF×Int
 | 0,p,ts,cs=>(p,ts,cs,0)
 | f+1,p,ts,cs=>bif Ac (p<s.length) then bif Ac ((Fq s p ts cs).2.2.2=0) then Kx s f (Fq s p ts cs).1 (Fq s p ts cs).2.1 (Fq s p ts cs).2.2.1 else Fq s p ts cs else (p,ts,cs,0)
def Jh(s:List UInt8):Nat×List EF×List EF×Int:=bif Ac ((20000:Int)<s.length) then (0,[],[],3) else Kx s s.length 0 [] []
theorem wZ{s:List UInt8}{p:Nat}{ts cs:List EF}(h:p<s.length)(he:(Fq s p ts cs).2.2.2=0):p<(Fq s p ts cs).1:=by
 unfold Fq at he ⊢;cases h1:Ac (EK s p=10);cases h2:((Ac (EK s p=32) || Ac (EK s p=9)) || Ac (EK s p=13));cases h3:I3 [47,47] (s.drop p);cases h4:I8 (EK s p);cases h7:Fx (EK s p);cases h8:Ao (ML (s.drop p)) 0;simp only [AL,AQ];have:ML (s.drop p)≠0:=by intro h0;rw [h0] at h8;cases h8
 omega;rw [h1,h2,h3,h4,h7,h8] at he;simp at he;have:=PE (q:=Fx) h h7;rw [h1,h2,h3,h4,h7] at he;cases h8:RP s p (DM Fx (s.drop p));rw [h8] at he;cases h9:Ac (Jw 0 ((s.drop p).take (DM Fx (s.drop p)))<9223372036854775808);rw [h9] at he;simp at he;simp only [AL,AQ];omega;rw [h8] at he;simp at he;have:=PE (q:=G9) h (by rw [G9,h4];rfl);rw [h1,h2,h3,h4] at he;cases h5:Ac ((32:Int)<DM G9 (s.drop p));simp only [AL,AQ];omega;rw [h5] at he;simp at he;have:=PE (q:=KW) h (by rw [KW,h1];rfl);simp only [AL,AQ];omega;simp only [AL,AQ];omega;simp only [AL,AQ];omega
theorem xI(s:List UInt8)(w:Ae)(hL:Laid w)(ac:10≤w.heap.size) :
 Bz An 156 #[Cg s] w fun v w'=>∃ b ta tc ca cc,v = .tuple #[.pointer (some ⟨b,0,none⟩),.int .i64 (Jh s).2.2.2]∧Jp w.heap.size b s (Jh s).1 (Jh s).2.1 (Jh s).2.2.1 ta tc ca cc w'∧G w w':=by
 have g:=G.refl w;refine Cu 27 [0] Tryz.func156 ?_;refine CT fun b8 w8 _ l8 g E=>?_;refine Aw (fun h1=>?_) fun h1=>?_;have hN:Jh s=(0,[],[],3):=by unfold Jh;rw [h1];rfl
 refine AN ?_;rw [hN];exact ⟨b8,none,0,none,0,rfl,⟨E.J,l8,J5 _ _ _ _,J5 _ _ _ _,(by intro h;cases h),(by intro h;cases h),(by intro k h;cases h)⟩,g⟩;have hN:Jh s=Kx s s.length 0 [] []:=by unfold Jh;rw [h1];rfl
 simp only [CB] at h1;refine CJ (Al (Am (DF (?_))))
 refine PM (fun (x:Nat×List EF×List EF×Nat) u=>Mw w.heap.size b8 s x.1 x.2.1 x.2.2.1 u∧s.length-x.1≤x.2.2.2∧Kx s x.2.2.2 x.1 x.2.1 x.2.2.1=Kx s s.length 0 [] []∧G w u) (fun _=>[(0,True,Cg s),(4,True,.pointer (some ⟨b8,0,none⟩))]) (fun x=>s.length-x.1) (0,[],[],s.length)
  ⟨(show Jp w.heap.size b8 s 0 [] [] none 0 none 0 w8 from ⟨E.J,l8,J5 _ _ _ _,J5 _ _ _ _,(by intro h;cases h),(by intro h;cases h),(by intro k h;cases h)⟩).aq (CW _) (CW _) (CW _) O,Nat.sub_le _ _,rfl,g⟩ (Hr rfl (Hr rfl (M3 _))) ?_
 rintro ⟨p,ts,cs,f⟩ u ⟨hs,hf,he,g⟩;simp only at hs hf he;obtain ⟨ta,tc,ca,cc,hA,k1,k2,k3,k4⟩:=hs.sa;refine Am (Am (Au (Ap J (C1 J (AE Ib J (AM Cb J (hA.B.y J) (Ap J (AR J (fun _=>Rv JW (Ab J)) (GG J J (Ai (Al (Cv J (fun h2=>?_) (fun h2=>?_)))))))))))));have h2:p<s.length:=by simp only [BM] at h2;omega
 obtain ⟨f',rfl⟩:∃ f',f=f'+1:=⟨f-1,O⟩;rw [Kx,BU h2,AL] at he;refine Ad ?_;refine AO (nE _ _ ac s p ts cs _ (hL.A g) hs h2) ?_;rintro ae ab ⟨rfl,aa,ad⟩;refine ⟨Fa,?_⟩;have g:G w ab:=Below.trans g ad;refine Aw (fun h3=>?_) fun h3=>?_;have h3:Ac ((Fq s p ts cs).2.2.2=0)=false:=by simpa using h3
 rw [h3,AQ] at he;refine AN ?_;rw [hN,← he];obtain ⟨ta,tc,ca,cc,hA,_⟩:=aa.sa;exact ⟨b8,ta,tc,ca,cc,rfl,hA,g⟩;have h3:(Fq s p ts cs).2.2.2=0:=by simpa using h3
 have af:=wZ h2 h3;rw [BU h3,AL] at he;refine WN [0,4] ?_;refine CJ (fun a ha=>?_);exact ⟨(_,_,_,f'),ha,⟨aa,by show s.length-(Fq s p ts cs).1≤f';omega,he,g⟩,by show s.length-(Fq s p ts cs).1<s.length-p;omega⟩;have hp:p=s.length:=by simp only [CB] at h2;omega
 have he:(p,ts,cs,(0:Int))=Kx s s.length 0 [] []:=by
  rw [← he]
  cases f with
  | zero=>rfl
  | succ f'=>rw [Kx,Aq (by omega:¬ p<s.length)];rfl
 refine AN ?_;rw [hN,← he];exact ⟨b8,ta,tc,ca,cc,rfl,hA,g⟩
def JP(s:List UInt8):List EF×Nat×Int:=bif !Ac ((Jh s).2.2.2=0) then ([],(Jh s).1,(Jh s).2.2.2) else ((Jh s).2.1,0,0)
def gS(base:Nat)(l:List EF)(v:Aj)(w:Ae):Prop:=w.ownsRow base 94 3 v l.length (Ko l)
theorem YF(s:List UInt8)(w:Ae)(hL:Laid w)(aa:10≤w.heap.size) :
 Bz An 132 #[Cg s] w fun v w'=>∃ l,v = .tuple #[l,.int .i64 (JP s).2.1,.int .i64 (JP s).2.2]∧gS w.heap.size (JP s).1 l w'∧G w w':=by
 have g:=G.refl w;refine Cu 23 [0] Tryz.func132 ?_;refine Ad ?_;refine AO (xI s _ (hL.A g) aa) ?_;rintro v9 w9 ⟨b,ta,tc,ca,cc,rfl,hA,g9⟩;refine Ev g9 fun g=>?_;refine Aw (fun h1=>?_) fun h1=>?_;(try simp only [BH] at h1);refine Am (Dj [3,3,3,0,3,3,3,3] ?_);have g:=HG g;have gh:=G.drew w9;refine Ap J (C1 J (AE Ib J (AM Cb J (by first|exact (hA.A gh).B.y J) (Ap J (Bj J (Bj J (Bj J (Ai (Al (Dl (Ql (ts:=[2,3,4]) (vs:=[_,_,_]) J J J ?_)))))))))));refine ⟨.slice none 0 0,?_,?_,g⟩;rw [JP,show (!Ac ((Jh s).2.2.2=0))=true from h1];rfl;rw [JP,show (!Ac ((Jh s).2.2.2=0))=true from h1];exact J5 _ _ _ _;have gh:=G.refl w9;refine CJ (Al (Am (Au (Ap J (C1 J (AE PU J (AM O9 J (by first|exact (hA.A gh).B.y J) (Bj J (Bj J (Bj J (Ai (Al (Dl (Ql (ts:=[2,3,4]) (vs:=[_,_,_]) J J J ?_))))))))))))));refine ⟨.slice ta (Jh s).2.1.length tc,?_,?_,g⟩;rw [JP,show (!Ac ((Jh s).2.2.2=0))=false from h1];rfl;rw [JP,show (!Ac ((Jh s).2.2.2=0))=false from h1];exact hA.ht
structure Bo where
  k:Int
  name:List UInt8
inductive Nd where
  | mk (kind:Int) (text:List UInt8) (num pos:Int) (kids:List Nd) (ty:Bo) (ref up:Int)
namespace Nd
def k:Nd→Int | .mk k _ _ _ _ _ _ _=>k
def o:Nd→List UInt8 | .mk _ x _ _ _ _ _ _=>x
def num:Nd→Int | .mk _ _ n _ _ _ _ _=>n
def z:Nd→Int | .mk _ _ _ a _ _ _ _=>a
def j:Nd→List Nd | .mk _ _ _ _ ks _ _ _=>ks
def ty:Nd→Bo | .mk _ _ _ _ _ y _ _=>y
def ref:Nd→Int | .mk _ _ _ _ _ _ r _=>r
def up:Nd→Int | .mk _ _ _ _ _ _ _ u=>u
end Nd
def Az:Bo:=⟨0,[]⟩
def Fr:Nd:=.mk 0 [] 0 0 [] Az 0 0
def Ek(y:Bo):List Aj:=[.int .i64 y.k,Cg y.name]
def De(t:Nd)(v:Aj):List Aj:=[.int .i64 t.k,Cg t.o,.int .i64 t.num,.int .i64 t.z,v,.int .i64 t.ty.k,Cg t.ty.name,.int .i64 t.ref,.int .i64 t.up]
@[reducible] def D7(y:Bo):Aj:=.agg (Ek y).toArray
@[reducible] def Cd(t:Nd)(v:Aj):Aj:=.agg (De t v).toArray
theorem W9(t:Nd)(v:Aj):(De t v).length=9:=rfl
mutual
theorem Nd.bc{C:Nd→Prop}(h:∀ t,(∀ k∈t.j,C k)→C t):∀ t,C t
 | .mk k x n a ks y r u=>h _ (Nd.a9 h ks)
theorem Nd.a9{C:Nd→Prop}(h:∀ t,(∀ k∈t.j,C k)→C t):∀ (l:List Nd),∀ k∈l,C k
 | []=>fun _ hk=>by cases hk
 | t::ts=>E0.2 ⟨Nd.bc h t,Nd.a9 h ts⟩
end
theorem Nd.ap{C:Nd→Prop}(h:∀ t,(∀ k∈t.j,C k)→C t)(t:Nd):C t:=Nd.bc h t
section
variable {α:Type}
mutual
def Jx(f:Nd→List α→α):Nd→α
 | .mk k x n a ks y r u=>f (.mk k x n a ks y r u) (S5 f ks)
def S5(f:Nd→List α→α):List Nd→List α
 | []=>[]
 | t::ts=>Jx f t::S5 f ts
end
theorem sO(f:Nd→List α→α)(l:List Nd):S5 f l=l.map (Jx f):=by
 induction l with
 | nil=>rfl
 | cons t ts ih=>rw [S5,ih];rfl
theorem Lw(f:Nd→List α→α)(t:Nd):Jx f t=f t (t.j.map (Jx f)):=by
 cases t with
 | mk k x n a ks y r u=>rw [Jx,sO];rfl
end
mutual
def FC(w:Ae)(D:Nat→Prop):List Nd→List Aj→Prop
 | [],xs=>xs=[]
 | t::ts,xs=>∃ v r,xs=De t v++r∧R5 w D t v∧FC w D ts r
def R5(w:Ae)(D:Nat→Prop):Nd→Aj→Prop
 | .mk _ _ _ _ ks _ _ _,v=>∃ p c,v = .slice p ks.length c∧ks.length≤c∧(0<ks.length→∃ b o,p=some ⟨b,o,none⟩∧D b∧∃ xs,CQ w b o xs∧FC w D ks xs)
end
def Bv(w:Ae)(D:Nat→Prop)(ks:List Nd)(v:Aj):Prop :=
 ∃ p c,v = .slice p ks.length c∧ks.length≤c∧(0<ks.length→∃ b o,p=some ⟨b,o,none⟩∧D b∧∃ xs,CQ w b o xs∧FC w D ks xs)
theorem RJ(w:Ae)(D:Nat→Prop)(t:Nd)(v:Aj):R5 w D t v=Bv w D t.j v:=by
 cases t;rw [R5];rfl
theorem Tc{w:Ae}{D:Nat→Prop}:FC w D [] []:=rfl
theorem Gw{w:Ae}{D:Nat→Prop}{t:Nd}{ts:List Nd}{v:Aj}{r:List Aj}(h:Bv w D t.j v)(k:FC w D ts r):FC w D (t::ts) (De t v++r) :=
 ⟨v,r,rfl,(RJ ..).symm▸h,k⟩
theorem RF{w:Ae}{D:Nat→Prop}:∀ {ks:List Nd} {xs:List Aj},FC w D ks xs→xs.length=ks.length*9
 | [],xs,h=>by rw [show xs=[] from h];rfl
 | t::ts,xs,h=>by
  obtain ⟨v,r,rfl,_,h⟩:=h;rw [DQ,W9,RF h,D4];omega
theorem Rn{w:Ae}{D:Nat→Prop}:∀ {ks ls:List Nd} {xs ys:List Aj},FC w D ks xs→FC w D ls ys→FC w D (ks++ls) (xs++ys)
 | [],ls,xs,ys,h,k=>by rw [show xs=[] from h];exact k
 | t::ts,ls,xs,ys,h,k=>by
  obtain ⟨v,r,rfl,h1,h⟩:=h;exact ⟨v,r++ys,by rw [List.append_assoc],h1,Rn h k⟩
theorem DG{w:Ae}{D:Nat→Prop}{t:Nd}{v:Aj}(h:Bv w D t.j v):FC w D [t] (De t v):=by
 have:=Gw h (Tc (w:=w) (D:=D));rwa [Ha] at this
theorem cG{w:Ae}{D:Nat→Prop}:∀ {ks:List Nd} {xs:List Aj} (_:FC w D ks xs) {i:Nat} (hi:i<ks.length),∃ v,(xs.drop (i*9)).take 9=De ks[i] v∧Bv w D ks[i].j v
 | [],xs,h,i,hi=>by cases hi
 | t::ts,xs,h,i,hi=>by
  obtain ⟨v,r,rfl,h1,h⟩:=h
  cases i with
  | zero=>exact ⟨v,by simp [De],RJ w D t v▸h1⟩
  | succ i =>
   have aa:i<ts.length:=by simpa using hi
   obtain ⟨v',e,k⟩:=cG h aa;refine ⟨v',?_,k⟩
   have e9:(De t v++r).drop ((i+1)*9)=r.drop (i*9):=by
    rw [show (i+1)*9=9+i*9 by omega,← List.drop_drop];rfl
   rw [e9];exact e
mutual
theorem MU{w w':Ae}{D D':Nat→Prop}(hD:∀ b,D b→b<w.heap.size→D' b)(hf:∀ b,D b→b<w.heap.size→w'.heap[b]? = w.heap[b]?):∀ (ks:List Nd) (xs:List Aj),FC w D ks xs→FC w' D' ks xs
 | [],xs,h=>h
 | t::ts,xs,h=>by
  obtain ⟨v,r,rfl,h1,h⟩:=h;exact ⟨v,r,rfl,Zj hD hf t v h1,MU hD hf ts r h⟩
theorem Zj{w w':Ae}{D D':Nat→Prop}(hD:∀ b,D b→b<w.heap.size→D' b)(hf:∀ b,D b→b<w.heap.size→w'.heap[b]? = w.heap[b]?):∀ (t:Nd) (v:Aj),R5 w D t v→R5 w' D' t v
 | .mk k x n a ks y r u,v,h=>by
  obtain ⟨p,c,rfl,hc,h⟩:=h;refine ⟨p,c,rfl,hc,fun h0=>?_⟩;obtain ⟨b,o,rfl,hb,xs,hR,hX⟩:=h h0;have hl:xs.length=ks.length*9:=RF hX;have ac:∃ u,xs[0]? = some u:=⟨xs[0]'O,by simp⟩;obtain ⟨u0,ad⟩:=ac;have aa:b<w.heap.size:=World.block_lt_of_cell? w _ (hR 0 u0 ad);have ab:=hf b hb aa;refine ⟨b,o,rfl,hD b hb aa,xs,fun j u hj=>?_,MU hD hf ks xs hX⟩;have:=hR j u hj;unfold World.cell? at this ⊢;simp only [ab];exact this
end
theorem HQ{w w':Ae}{D D':Nat→Prop}{ks:List Nd}{v:Aj}(h:Bv w D ks v)(hD:∀ b,D b→b<w.heap.size→D' b)(hf:∀ b,D b→b<w.heap.size→w'.heap[b]? = w.heap[b]?):Bv w' D' ks v:=by
 have:=Zj hD hf (.mk 0 [] 0 0 ks Az 0 0) v ((RJ w D _ v).symm▸h);rw [RJ] at this;exact this
theorem Bv.mono{w:Ae}{D D':Nat→Prop}{ks:List Nd}{v:Aj}(h:Bv w D ks v)(hD:∀ b,D b→b<w.heap.size→D' b):Bv w D' ks v:=HQ h hD fun _ _ _=>rfl
theorem FC.mono{w:Ae}{D D':Nat→Prop}{ks:List Nd}{xs:List Aj}(h:FC w D ks xs)(hD:∀ b,D b→b<w.heap.size→D' b):FC w D' ks xs:=MU hD (fun _ _ _=>rfl) _ _ h
theorem Bv.A{w w':Ae}{D:Nat→Prop}{ks:List Nd}{v:Aj}(h:Bv w D ks v)(g:G w w'):Bv w' D ks v:=HQ h (fun _ h _=>h) fun _ _ hb=>g.block hb
theorem FC.A{w w':Ae}{D:Nat→Prop}{ks:List Nd}{xs:List Aj}(h:FC w D ks xs)(g:G w w'):FC w' D ks xs:=MU (fun _ h _=>h) (fun _ _ hb=>g.block hb) _ _ h
theorem Bv.C{w w':Ae}{D:Nat→Prop}{ks:List Nd}{v:Aj}{row:Option Nat}(h:Bv w D ks v)(hg:w.grownBy w' row)(ab:∀ b,D b→b<w.heap.size→some b≠row):Bv w' D ks v:=HQ h (fun _ h _=>h) fun b hb aa=>hg.block b aa (ab b hb aa)
theorem FC.C{w w':Ae}{D:Nat→Prop}{ks:List Nd}{xs:List Aj}{row:Option Nat}(h:FC w D ks xs)(hg:w.grownBy w' row)(ab:∀ b,D b→b<w.heap.size→some b≠row):FC w' D ks xs:=MU (fun _ h _=>h) (fun b hb aa=>hg.block b aa (ab b hb aa)) _ _ h
theorem Bv.lt{w:Ae}{D:Nat→Prop}{ks:List Nd}{v:Aj}(h:Bv w D ks v):Bv w (fun b=>D b∧b<w.heap.size) ks v:=HQ h (fun _ h hl=>⟨h,hl⟩) fun _ _ _=>rfl
theorem Bv.b6{w w':Ae}{D:Nat→Prop}{ks:List Nd}{v:Aj}(h:Bv w D ks v)(g:G w w'):Bv w' (fun b=>D b∧b<w.heap.size) ks v:=h.lt.A g
theorem Ob(w:Ae)(D:Nat→Prop):Bv w D [] (.slice none 0 0):=⟨none,0,rfl,Bu _,fun h=>absurd h (Nat.lt_irrefl 0)⟩
theorem sB{w:Ae}{base:Nat}{e:AD}{v:Aj}{m:Nat}{xs:List Aj}{D:Nat→Prop}{ks:List Nd}(h:w.ownsRow base e 9 v m xs)(hm:m=ks.length)(k:FC w D ks xs)(hD:∀ b,v.ownBlock=some b→D b):Bv w D ks v:=by
 subst hm;obtain ⟨a,c,rfl,hc⟩:=IJ h;refine ⟨a,c,rfl,hc,fun h0=>?_⟩;obtain ⟨b,c',hv,_,hR,_⟩:=LU h h0;injection hv with hv _ _;subst hv;exact ⟨b,0,rfl,hD b rfl,xs,hR,k⟩
theorem Ec{w:Ae}{D:Nat→Prop}{ks:List Nd}{b o c:Nat}{xs:List Aj}(hb:D b)(hR:CQ w b o xs)(hX:FC w D ks xs)(hc:ks.length≤c):Bv w D ks (.slice (some ⟨b,o,none⟩) ks.length c):=⟨_,c,rfl,hc,fun _=>⟨b,o,rfl,hb,xs,hR,hX⟩⟩
theorem JD{w:Ae}{D:Nat→Prop}{ks:List Nd}{b o:Nat}{xs:List Aj}(hR:CQ w b o xs)(hX:FC w D ks xs){i:Nat}(hi:i<ks.length):∃ p c,CQ w b (o+i*9) (De ks[i] (.slice p ks[i].j.length c))∧Bv w D ks[i].j (.slice p ks[i].j.length c):=by
 obtain ⟨v,e,k⟩:=cG hX hi;have:=hR.part (i*9) 9;rw [e] at this;obtain ⟨p,c,rfl,k1⟩:=k;exact ⟨p,c,this,p,c,rfl,k1⟩
def count(t:Nd):Nat:=Jx (fun _ l=>1+l.sum) t
theorem J7(t:Nd):count t=1+(t.j.map count).sum:=Lw _ t
theorem YG(l:List Nat)(i:Nat):(l.take i).sum≤l.sum:=by
 conv=>rhs;rw [← List.take_append_drop i l,Hp]
 omega
theorem KG{t:Nd}{i:Nat}(h:i<t.j.length):((t.j.take i).map count).sum+count t.j[i]+1≤count t:=by
 rw [J7 t];have:=YG (t.j.map count) (i+1);rw [← List.map_take,Ht,A2 h] at this;simp only [Option.toList_some,List.map_append,List.map_cons,List.map_nil,Hp,List.sum_cons,List.sum_nil] at this;omega
theorem JY(t:Nd):1≤count t:=by rw [J7];omega
theorem iQ:∀ (l:List Nd),l.length≤(l.map count).sum
 | []=>Bu _
 | t::ts=>by have:=iQ ts;have:=JY t;simp;omega
theorem ED(t:Nd):t.j.length+1≤count t:=by
 have:=iQ t.j;rw [J7];omega
theorem MW{t k:Nd}(h:k∈t.j):count k+1≤count t:=by
 obtain ⟨i,hi,rfl⟩:=Gq h;have:=KG hi;omega
theorem cK{α β:Type}(f:α→β)(l:List α)(i:Nat)(h:i<l.length):(l.take (i+1)).map f=(l.take i).map f++[f l[i]]:=by
 rw [Ht,A2 h,List.map_append];rfl
theorem eF(c:Int)(w:Ae):Bz An 94 #[.int .u8 c] w fun v w'=>v = .bool (I8 c)∧G w w':=by
 have g:=G.refl w;refine Cu 21 [0] Tryz.func94 ?_;refine AN ?_;exact ⟨rfl,g⟩
theorem qW(c:Int)(w:Ae):Bz An 96 #[.int .u8 c] w fun v w'=>v = .bool (Fx c)∧G w w':=by
 have g:=G.refl w;refine Cu 9 [0] Tryz.func96 ?_;refine AN ?_;exact ⟨rfl,g⟩
def MB(c:UInt8):Bool:=I8 c.toNat || Fx c.toNat
def FK(s:List UInt8):Bool:=!(((Ac (s=[]) || Ac ((32:Int)<s.length)) || !I8 (EK s 0)) || Jk KM s)&&(s.drop 1).all MB
theorem X3{s:List UInt8}{i:Nat}(h:i<s.length):EK s i=(s[i].toNat:Int):=by simp [EK,CC,A2 h]
theorem NK(s:List UInt8)(w:Ae):Bz An 77 #[Cg s] w fun v w'=>v = .bool (FK s)∧G w w':=by
   have g:=G.refl w
   refine Cu 39 [0] Tryz.func77 ?_
   refine Ad ?_
   refine Ay J J J (fun _=>OA JW (Ah J id) Bd (fun hc=>by
 have h1:=hc.2;simp only [EY,CB] at h1
 have:s.length≠0:=fun h=>h1.1 (Kn.1 h)
 omega)) (Ff rfl rfl rfl (fun _=>(BF iZ BX (CM (Ah rfl id) (DC)) rfl)) (fun hc=>eF _ _) (fun aj ah=>?_))
   have g:=g.trans ah
   refine Ad ?_
   refine GA (fun hc=>vR _ _) (fun af ag=>?_)
   have g:=g.trans ag
   refine Aw (fun h1=>?_) fun h1=>?_
   · (try simp only [BH] at h1)
     refine Cy ?_
     unfold FK;rw [show (((Ac (s=[]) || Ac ((32:Int)<s.length)) || !I8 (EK s 0)) || Jk KM s)=true from h1];rfl
   have hn:FK s=(s.drop 1).all MB:=by unfold FK;rw [show (((Ac (s=[]) || Ac ((32:Int)<s.length)) || !I8 (EK s 0)) || Jk KM s)=false from h1];rfl
   have ai:s.length≤32:=by
     simp only [EY,CB] at h1;omega
   refine Ad ?_
   refine Hi (fun (i:Nat) u1=>(1≤i∧∀ j,1≤j→(h:j<s.length)→j<i→MB s[j]=true)∧G af u1) [(0,True,_)] (fun (i:Nat)=>[(3,True,.int .i64 i)]) (fun (i:Nat)=>s.length-i) (1) ⟨⟨O,fun j h1 _ h2=>by omega⟩,G.refl _⟩ Bp ?_
   rintro i u1 ⟨ac,aa⟩
   have g:=g.trans aa
   refine Aw (fun h2=>?_) fun h2=>?_
   · have h2:i<s.length:=by simp only [BM] at h2;omega
     refine CJ (Al (Am (DF (Am (Au (Ap J (Ap J (AR J (fun _=>OA JW (Ab J) (Ab J) (fun _=>O)) (F0 J (BF iZ BX (Cn J CI) J) (eF _ _) (fun ak ae=>?_))))))))))
     have g:=g.trans ae
     have aa:=aa.trans (ae)
     refine Sd J (Ap J (Ay J J J (Bm J) (Ay J J J (Bm J) (Ay J J J (fun _=>OA JW (Ah J id) (Ah J id) (fun hc=>O)) (Ff J J J (fun _=>(BF Ack BX (CM (Ah J id) (DC)) J)) (fun hc=>qW _ _) (fun al ad=>?_))))))
     have g:=g.trans ad
     have aa:=aa.trans (ad)
     refine Aw (fun h3=>?_) fun h3=>?_
     · have ab:MB s[i]=false:=by
         rw [MB,← X3 h2];simpa [EK] using h3
       refine Cy ?_
       rw [hn,eq_comm,List.all_eq_false]
       exact ⟨s[i],Kv.2 ⟨i-1,O,by congr 1;omega⟩,by rw [ab];simp⟩
     have ab:MB s[i]=true:=by
       rw [MB,← X3 h2]
       cases ha:I8 (EK s i)
       · cases hb:Fx (EK s i)
         · exfalso
           have h3:(!I8 (EK s i) && !Fx (EK s i))=false:=h3
           rw [ha,hb] at h3;cases h3
         · rfl
       · rfl
     refine Ad ?_
     refine Ci [3,0] ?_
     refine Ai (fun a ha=>?_)
     refine ⟨i+1,ha,⟨⟨O,fun j h4 h5 h6=>?_⟩,aa⟩,O⟩
     by_cases e:j=i
     · subst e;exact ab
     · exact ac.2 j h4 h5 O
   have h2:s.length≤i:=by simp only [CB] at h2;omega
   refine Cy ?_
   rw [hn,eq_comm,E6]
   intro x hx
   obtain ⟨j,hj,rfl⟩:=Kv.1 hx
   exact ac.2 _ O O O
theorem tL{c:Int}(h:I8 c=true):Ac (c=10)=false∧((Ac (c=32) || Ac (c=9)) || Ac (c=13))=false∧Ac (c=47)=false:=by
 simp only [I8,Gm,Du,BM] at h;simp only [EY,CB];omega
theorem Ym{q:Int→Bool}:∀ {l:List UInt8},(∀ c∈l,q c.toNat=true)→DM q l=l.length
 | [],_=>rfl
 | c::l,h=>by
  rw [DM,CO (h c (F3 ..)),Ym fun x hx=>h x (Jz _ hx)];rfl
theorem mF{s:List UInt8}(h:FK s=true):s.length≠0∧s.length≤32∧I8 (EK s 0)=true∧Jk KM s=false∧DM G9 s=s.length:=by
 unfold FK at h;simp only [Du,Bool.not_eq_true',EY,CB,Bool.not_eq_false'] at h;obtain ⟨⟨⟨⟨h1,h2⟩,h3⟩,h4⟩,h5⟩:=h;refine ⟨fun e=>h1 (Kn.1 e),O,h3,h4,Ym fun c hc=>?_⟩
 cases s with
 | nil=>cases hc
 | cons a l =>
  rcases List.mem_cons.1 hc with rfl|hc;have:I8 (c.toNat:Int)=true:=h3;rw [G9,this];rfl;exact E6.1 h5 c hc
theorem sW{l:List UInt8}(h:Ac (EK l 0=47)=false):I3 [47,47] l=false:=by
 cases l with
 | nil=>rfl
 | cons a l =>
  have:¬ (a.toNat:Int)=47:=CF h;unfold I3;rw [Hv];right;rw [CB];intro e;rw [D4,Kh] at e;injection e with AU _;subst AU;exact this rfl
theorem lR{s:List UInt8}(h:FK s=true):JP s=([⟨1,s,0⟩],0,0):=by
 obtain ⟨h0,h1,h2,h3,h4⟩:=mF h;obtain ⟨a1,a2,a3⟩:=tL h2
 have hN:Fq s 0 [] []=(s.length,[⟨1,s,0⟩],[],0):=by
  unfold Fq;rw [a1,a2,show s.drop 0=s from rfl,sW a3,h2,h4,Aq (by omega:¬ (32:Int)<(s.length:Nat)),L3 (Bu _),SB,h3];simp
 have hG:Kx s s.length 0 [] []=(s.length,[⟨1,s,0⟩],[],0):=by
  obtain ⟨m,hm⟩:∃ m,s.length=m+1:=⟨s.length-1,O⟩;rw [hm,Kx,BU (by omega:0<s.length),hN];simp only [AL,decide_true]
  cases m with
  | zero=>rw [Kx,hm]
  | succ m=>rw [Kx,Aq O,AQ,hm]
 rw [JP,Jh,Aq (by omega:¬ (20000:Int)<s.length),AQ,hG];rfl
def NN(t:EF):Prop:=t.k=1→FK t.o=true
theorem Aeg{s:List UInt8}{p:Nat}{ts:List EF}(cs:List EF)(hp:p<s.length)(h:∀ t∈ts,NN t):∀ t∈(Fq s p ts cs).2.1,NN t:=by
 have hn:∀ (l:List EF) (t:EF),(∀ t∈l,NN t)→NN t→∀ u∈l++[t],NN u:=by
  intro l t hl ht u hu;rcases List.mem_append.1 hu with hu|hu;exact hl u hu;rw [List.mem_singleton.1 hu];exact ht
 unfold Fq;cases h1:Ac (EK s p=10);cases h2:((Ac (EK s p=32) || Ac (EK s p=9)) || Ac (EK s p=13));cases h3:I3 [47,47] (s.drop p);cases h4:I8 (EK s p);cases h7:Fx (EK s p);cases h8:Ao (ML (s.drop p)) 0;exact hn _ _ h (fun e=>by simp at e);exact h;cases h8:RP s p (DM Fx (s.drop p));cases h9:Ac (Jw 0 ((s.drop p).take (DM Fx (s.drop p)))<9223372036854775808);exact h;exact hn _ _ h (fun e=>by simp at e);exact h;cases h5:Ac ((32:Int)<DM G9 (s.drop p));refine hn _ _ h (fun e=>?_);simp only at e ⊢;have hq:G9 (EK s p)=true:=by rw [G9,h4];rfl
 have ab:=PE hp hq;have ac:=Ut G9 hp;have aa:=U2 G9 (s.drop p);generalize hX:(s.drop p).take (DM G9 (s.drop p))=x at e aa ⊢;have hl:x.length=DM G9 (s.drop p):=by rw [← hX,GZ,Gc];omega
 have hk:Jk KM x=false:=by
  cases hk:Jk KM x;rfl;rw [SB,hk] at e;cases e
 have hc:EK x 0=EK s p:=by
  rw [← hX];unfold EK;simp [CC,List.getElem?_take,show 0<DM G9 (s.drop p) from ab]
 have ad:=CF h5;unfold FK;rw [Aq (by omega:¬ (32:Int)<(x.length:Nat)),hc,h4,hk,Aq (by intro e0;rw [e0] at hl;simp at hl;omega)];simp only [Cj,Dr,Cq,GN];rw [E6];intro c hc;exact aa c (List.mem_of_mem_drop hc);exact h;exact h;exact h;show ∀ t∈Lr p ts,NN t;intro t ht
 have:Lr p ts=ts∨∃ q,Lr p ts=ts++[⟨4,[59],q⟩]:=by
  unfold Lr
  cases ts.getLast? with
  | none=>exact .inl rfl
  | some u=>simp only [];split <;> first|exact .inl rfl|exact .inr ⟨_,rfl⟩
 rcases this with e|⟨q,e⟩;rw [e] at ht;exact h t ht;rw [e] at ht;exact hn _ _ h (fun e=>by simp at e) t ht
theorem Yu(s:List UInt8):∀ (f p:Nat) (ts cs:List EF),(∀ t∈ts,NN t)→∀ t∈(Kx s f p ts cs).2.1,NN t
 | 0,_,_,_,h=>h
 | f+1,p,ts,cs,h=>by
  rw [Kx];cases hp:Ac (p<s.length);exact h;have hn:=Aeg (ts:=ts) cs (AH hp) h;cases Ac ((Fq s p ts cs).2.2.2=0);exact hn;exact Yu s f _ _ _ hn
theorem vA(s:List UInt8):∀ t∈(JP s).1,NN t:=by
 rw [JP,Jh];cases Ac ((20000:Int)<s.length);simp only [AQ];have:=Yu s s.length 0 [] [] (fun t ht=>by cases ht);cases (!Ac ((Kx s s.length 0 [] []).2.2.2=0));exact this;exact fun t ht=>by cases ht
 exact fun t ht=>by cases ht
def Qh(l:List EF):EF:=l.getD 0 ⟨0,[],0⟩
def XO(s:List UInt8):Bool:=((Ac ((JP s).2.2=0)&&Ac (((JP s).1.length:Int)=1))&&Ac ((Qh (JP s).1).k=1))&&Ac ((Qh (JP s).1).o=s)
theorem gG(s:List UInt8):XO s=FK s:=by
 cases h:FK s;rw [XO,Bool.eq_false_iff];intro hp;simp only [Du,BM] at hp;obtain ⟨⟨⟨_,h2⟩,h3⟩,h4⟩:=hp
 have hm:Qh (JP s).1∈(JP s).1:=by
  cases hl:(JP s).1 with
  | nil=>rw [hl] at h2;simp at h2
  | cons a l=>exact F3 ..
 have:=vA s _ hm h3;rw [h4,h] at this;cases this;rw [XO,lR h];simp [Qh]
def E5(p:Option Addr):Nat:=match p with|some a=>a.block|none=>0
def Gu(p:Option Addr):Nat:=match p with|some a=>a.off|none=>0
def Cs:List Int→Int→Bool
 | [],_=>false
 | [a],k=>Ac (k=a)
 | a::b::l,k=>Ac (k=a) || Cs (b::l) k
def Ep:List (List UInt8)→List UInt8→Bool
 | [],_=>false
 | [a],k=>Ac (k=a)
 | a::b::l,k=>Ac (k=a) || Ep (b::l) k
theorem OR:∀ (l:List Int) (k:Int),Cs l k=true↔k∈l
 | [],k=>by simp [Cs]
 | [a],k=>by simp [Cs]
 | a::b::l,k=>by rw [Cs,Gm,OR (b::l) k,BM,List.mem_cons (a:=k) (b:=a)]
theorem Le:∀ (l:List (List UInt8)) (k:List UInt8),Ep l k=true↔k∈l
 | [],k=>by simp [Ep]
 | [a],k=>by simp [Ep]
 | a::b::l,k=>by rw [Ep,Gm,Le (b::l) k,BM,List.mem_cons (a:=k) (b:=a)]
theorem Afn{w:Ae}{b o:Nat}{l:List EF}(h:CQ w b o (Ko l))(hl:0<l.length):CQ w b o (NJ (Qh l)):=by
 cases l with
 | nil=>cases hl
 | cons t l =>
  have:=h.part 0 3;exact this
theorem CS{P:AJ}{n:Nat}{σ:List Ce}{c:Prop}{wb:Ae}{ty:AD}{t e z aa:Nat}{x y:Bl}{p:Option Addr}{m q:Nat}{k:IntKind}{i:Int}(ht:Gf P t=some (e,z,aa))(h:BI n σ c x (.slice p m q))(h':BI n σ c y (.int k i))(hi:c→0≤i∧i<m)(hp:c→p=some ⟨E5 p,Gu p,none⟩) :
  Db P n σ c wb (.indexAddr t x y) ty (.pointer (some ⟨E5 p,Gu p+i.toNat*z,none⟩)):=.mk fun d pos after gd a ha hc w1 hg =>
 KQ (P:=P) (wb:=wb) ht (BI.to h fun hc=>congrArg (fun p=>Fs p m q) (hp hc)) h' hi d pos after gd a ha hc w1 hg
theorem Dk{P:AJ}{Z:List Bf→Act→Ae→Prop}{ops:List Oper}{cl:List Nat}{lv:List Bool}{W0:Ae}{n:Nat}{K:Act→Ae→Prop}{k:Nat}{rest:List Oper}{σ:List Ce}{w:Ae}{d:Nat}{ty:AD}{pos:String}{after:Array Edge}{x y:Bl}{t e z aa:Nat}{p:Option Addr}{m q:Nat}{g:IntKind}{i:Int}(ht:Gf P t=some (e,z,aa))(hx:FD σ x=some (True,.slice p m q))(hy:FD σ y=some (True,.int g i))(hi:0≤i∧i<m)(hp:p=some ⟨E5 p,Gu p,none⟩)
  (h:BK P Z ops cl lv W0 n K (k+1) rest ((d,True,.pointer (some ⟨E5 p,Gu p+i.toNat*z,none⟩)) :: σ) w) (hb:(Ao (Bw cl k) 3&&CR d n)=true:=by exact rfl):BK P Z ops cl lv W0 n K k (⟨some d,.indexAddr t x y,ty,pos,after,none⟩::rest) σ w:=AR hb (fun _=>CS ht (FN hx) (FN hy) (fun _=>hi) fun _=>hp) h
theorem fG{base:Nat}{l:List EF}{v:Aj}{w:Ae}(h:gS base l v w):∃ a c,v = .slice a l.length c∧(0<l.length→a=some ⟨E5 a,Gu a,none⟩∧CQ w (E5 a) (Gu a) (NJ (Qh l))):=by
 obtain ⟨a,c,rfl,_⟩:=IJ h;refine ⟨a,c,rfl,fun h0=>?_⟩;obtain ⟨b,c',hv,_,hR,_⟩:=LU h h0;injection hv with hv _ _;subst hv;exact ⟨rfl,Afn hR h0⟩
theorem dB(s:List UInt8)(w:Ae)(hL:Laid w)(aa:10≤w.heap.size):Bz An 109 #[Cg s] w fun v w'=>v = .bool (FK s)∧G w w':=by
 have g:=G.refl w;refine Cu 34 [0] Tryz.func109 ?_;refine Ad ?_;refine AO (YF s _ (hL.A g) Dn) ?_;rintro v8 w8 ⟨l,rfl,hT,g8⟩;obtain ⟨a,c,rfl,hr⟩:=fG hT;refine Ev g8 fun g=>?_;refine Ad ?_;refine Ay J J J (fun _=>CS MG (Ah J id) Bd (fun hc=>by have:=AH (AA.1 hc.2).2;omega) (fun hc=>(hr (by have:=AH (AA.1 hc.2).2;omega)).1)) ?_;refine Ad ?_;refine BQ J J J (AZ Cb (Ah J id) (fun hc=>(hr (by have:=AH (AA.1 hc.2).2;omega)).2 0 _ J)) ?_;refine Ad ?_;refine Ay J J J (fun _=>CS MG (Ah J id) Bd (fun hc=>by have:=AH (AA.1 (AA.1 hc.2).1).2;omega) (fun hc=>(hr (by have:=AH (AA.1 (AA.1 hc.2).1).2;omega)).1)) ?_;refine Ad ?_;refine BQ J J J (AZ DW (Ah J id) (fun hc=>(hr (by have:=AH (AA.1 (AA.1 hc.2).1).2;omega)).2 1 _ J)) ?_;refine Cy ?_;rw [← gG];rfl
theorem Bo.ext'{a b:Bo}(h:a.k=b.k)(k:a.name=b.name):a=b:=by cases a;cases b;simp_all
def BL(a b:Bo):Bool:=Ac (a.k=b.k)&&(Ac (a.name=b.name)&&true)
theorem Ru(a b:Bo):BL a b=true↔a=b:=by
 unfold BL;simp only [Bool.and_true,Du,BM];exact ⟨fun h=>Bo.ext' h.1 h.2,fun h=>by rw [h];exact ⟨rfl,rfl⟩⟩
theorem qX(a b:Bo):BL a b=BL b a:=by
 rw [Bool.eq_iff_iff,Ru,Ru];exact eq_comm
def tInt:Bo:=⟨1,[]⟩
def tBool:Bo:=⟨2,[]⟩
def tNil:Bo:=⟨3,[]⟩
def KA(y:Bo):Bool:=bif Ac (y.k=4) then FK y.name else (Ac (0≤y.k)&&Ac (y.k≤12))&&Ac (y.name=[])
def Mb(y:Bo):Bool:=bif Cs [4,5,6,7] y.k then KA y else false
def E4(y:Bo):Bool:=(BL y tInt || BL y tBool) || Mb y
def EE(to fr:Bo):Bool:=E4 to&&(BL fr to || (BL fr tNil&&Mb to))
def Nk(a b:Bo):Bool:=bif BL a tNil || BL b tNil then Mb a || Mb b
 else bif Cs [1,2,4,6] a.k then BL a b&&KA a else false
theorem Vz(y:Bo)(w:Ae)(hL:Laid w)(aa:10≤w.heap.size):Bz An 135 #[D7 y] w fun v w'=>v = .bool (KA y)∧G w w':=by
 have g:=G.refl w;refine Cu 22 [0] Tryz.func135 ?_;refine CT fun _ _ _ _ g E=>?_;refine Aw (fun h1=>?_) fun h1=>?_;(try simp only [BH] at h1);refine Ad ?_;refine DI (dB _ _ (hL.A g) Dn) (DB fun w8 g8 g E=>?_);refine Cy ?_;unfold KA;rw [h1];rfl;refine Cy ?_;unfold KA;rw [h1];rfl
theorem Ye(y:Bo)(w:Ae):Bz An 76 #[D7 y] w fun v w'=>v = .bool (KA y)∧G w w':=by
 have g:=G.refl w;refine Cu 22 [0] Tryz.func76 ?_;refine CT fun _ _ _ _ g E=>?_;refine Aw (fun h1=>?_) fun h1=>?_;(try simp only [BH] at h1);refine Ad ?_;refine DI (NK _ _) (DB fun w8 g8 g E=>?_);refine Cy ?_;unfold KA;rw [h1];rfl;refine Cy ?_;unfold KA;rw [h1];rfl
theorem T9(y:Bo)(w:Ae)(hL:Laid w)(aa:10≤w.heap.size):Bz An 110 #[D7 y] w fun v w'=>v = .bool (Mb y)∧G w w':=by
 have g:=G.refl w;refine Cu 12 [0] Tryz.func110 ?_;refine CT fun _ _ _ _ g E=>?_;refine Ad ?_;refine' A1 [1,2] (fun ac=>?y1) (Al ?n1)
 case y1 =>
  refine Ad ?_;refine' A1 [1,2] (fun Ga=>?y2) A0
  case y2 =>
   refine Ad ?_;refine' A1 [1,2] (fun aa=>?y3) A0
   case y3 =>
    refine Ad ?_;refine Ci [5,1,2] ?_;exact Ai A0
 case n1 =>
  refine Aw (fun h4=>?_) fun h4=>?_;have hq:Cs [4,5,6,7] y.k=true:=h4;refine Ad ?_;refine DI (Vz _ _ (hL.A g) Dn) (DB fun ab ad g E=>?_);refine Cy ?_;unfold Mb;rw [hq];rfl;have hq:Cs [4,5,6,7] y.k=false:=h4;refine Cy ?_;unfold Mb;rw [hq];rfl
theorem pY(y:Bo):((KA y&&Ac (4≤y.k))&&Ac (y.k≤7))=Mb y:=by
 unfold Mb;by_cases h:4≤y.k∧y.k≤7;rw [BU h.1,BU h.2]
 have:Cs [4,5,6,7] y.k=true:=by
  simp only [Cs,Gm,BM];omega
 rw [this];simp
 have:Cs [4,5,6,7] y.k=false:=by
  simp only [Cs,EY,CB];omega
 rw [this,AQ,Hv,Hv,CB,CB];omega
theorem T1(y:Bo)(w:Ae):Bz An 47 #[D7 y] w fun v w'=>v = .bool (Mb y)∧G w w':=by
 have g:=G.refl w;refine Cu 15 [0] Tryz.func47 ?_;refine CT fun _ _ _ _ g E=>?_;refine Ad ?_;refine DI (Ye _ _) (DB fun w4 g4 g E=>?_);refine Cy ?_;exact pY y
theorem Px(y:Bo)(w:Ae)(hL:Laid w)(ab:10≤w.heap.size):Bz An 86 #[D7 y] w fun v w'=>v = .bool (E4 y)∧G w w':=by
 have g:=G.refl w;refine Cu 15 [0] Tryz.func86 ?_;refine Am (Au (CT fun _ _ _ _ g E=>?_));refine Bj J (Ai (Al (Am (Au (Ct Cf J J E.J.row (Hg FF Ia (Bk J CH) J J (AR J (fun _=>I9 Iv (Ab J) (Ab J) J) (Ap J (BQ J J J (A8 Cf (Ab J) J (fun _=>E.J.row)) (Ay J J J (fun _=>Jj [_,_] FF J Ia (J6 Bd (IR)) J) (Ay J J J (fun _=>I9 Iv (Ah J id) (Ah J id) J) (AR J (fun _=>FR (Ab J) (Ah J id)) (Ap J (BQ J J J (A8 Cf (Ab J) J (fun _=>E.J.row)) (Ff J J J (fun _=>(BF Zl BX (CM (Ah J id) (DC)) J)) (fun hc=>T9 _ _ (hL.A g) Dn) (fun ac aa=>?_))))))))))))))));have g:=g.trans aa;replace E:=E.A aa;refine AN ?_;exact ⟨rfl,g⟩
theorem PV(y:Bo)(w:Ae):Bz An 46 #[D7 y] w fun v w'=>v = .bool (E4 y)∧G w w':=by
 have g:=G.refl w;refine Cu 15 [0] Tryz.func46 ?_;refine Am (Au (CT fun _ _ _ _ g E=>?_));refine Bj J (Ai (Al (Am (Au (Ct Cf J J E.J.row (Hg FF Ia (Bk J CH) J J (AR J (fun _=>I9 Iv (Ab J) (Ab J) J) (Ap J (BQ J J J (A8 Cf (Ab J) J (fun _=>E.J.row)) (Ay J J J (fun _=>Jj [_,_] FF J Ia (J6 Bd (IR)) J) (Ay J J J (fun _=>I9 Iv (Ah J id) (Ah J id) J) (AR J (fun _=>FR (Ab J) (Ah J id)) (Ap J (BQ J J J (A8 Cf (Ab J) J (fun _=>E.J.row)) (Ff J J J (fun _=>(BF Y1 BX (CM (Ah J id) (DC)) J)) (fun hc=>T1 _ _) (fun ab aa=>?_))))))))))))))));have g:=g.trans aa;replace E:=E.A aa;refine AN ?_;exact ⟨rfl,g⟩
theorem rF(a b:Bo)(w:Ae)(hL:Laid w)(ab:10≤w.heap.size):Bz An 136 #[D7 a,D7 b] w fun v w'=>v = .bool (EE a b)∧G w w':=by
 have g:=G.refl w;refine Cu 21 [0,1] Tryz.func136 ?_;refine CT fun _ _ _ _ g E=>?_;refine Mt fun _ _ _ _ g E=>?_;refine Bj J (Ai (Al (Am (Au (Ct Cf J J E.U.row (F0 J (BF Yt BX (Cn J CI) J) (Px _ _ (hL.A g) Dn) (fun w6 g6=>?_)))))));have g:=g.trans g6;replace E:=E.A g6;refine Ap J (BQ J J J (A8 Cf (Ab J) J (fun _=>E.J.row)) (BQ J J J (A8 Cf (Ab J) J (fun _=>E.U.row)) (Ay J J J (fun _=>I9 Iv (Ah J id) (Ah J id) J) (Ay J J J (fun _=>J1 (Ah J id)) (BQ J J J (A8 Cf (Ab J) J (fun _=>E.J.row)) (Ay J J J (fun _=>Jj [_,_] FF J Ia (J6 Bd (IR)) J) (Ay J J J (fun _=>I9 Iv (Ah J id) (Ah J id) J) (Ay J J J (fun _=>J1 (Ah J id)) (BQ J J J (A8 Cf (Ab J) J (fun _=>E.U.row)) (Ff J J J (fun _=>(BF Zl BX (CM (Ah J id) (DC)) J)) (fun hc=>T9 _ _ (hL.A g) Dn) (fun ac aa=>?_)))))))))));have g:=g.trans aa;replace E:=E.A aa;refine AN ?_;exact ⟨rfl,g⟩
theorem O1(a b:Bo)(w:Ae):Bz An 19 #[D7 a,D7 b] w fun v w'=>v = .bool (EE a b)∧G w w':=by
 have g:=G.refl w;refine Cu 21 [0,1] Tryz.func19 ?_;refine CT fun _ _ _ _ g E=>?_;refine Mt fun _ _ _ _ g E=>?_;refine Bj J (Ai (Al (Am (Au (Ct Cf J J E.U.row (F0 J (BF yU BX (Cn J CI) J) (PV _ _) (fun w6 g6=>?_)))))));have g:=g.trans g6;replace E:=E.A g6;refine Ap J (BQ J J J (A8 Cf (Ab J) J (fun _=>E.U.row)) (BQ J J J (A8 Cf (Ab J) J (fun _=>E.J.row)) (Ay J J J (fun _=>I9 Iv (Ah J id) (Ah J id) J) (Ay J J J (fun _=>J1 (Ah J id)) (BQ J J J (A8 Cf (Ab J) J (fun _=>E.J.row)) (Ay J J J (fun _=>Jj [_,_] FF J Ia (J6 Bd (IR)) J) (Ay J J J (fun _=>I9 Iv (Ah J id) (Ah J id) J) (Ay J J J (fun _=>J1 (Ah J id)) (BQ J J J (A8 Cf (Ab J) J (fun _=>E.U.row)) (Ff J J J (fun _=>(BF Y1 BX (CM (Ah J id) (DC)) J)) (fun hc=>T1 _ _) (fun ab aa=>?_)))))))))));have g:=g.trans aa;replace E:=E.A aa;refine Cy ?_;unfold EE;rw [qX b a];rfl
theorem Abt(a b:Bo)(w:Ae)(hL:Laid w)(aa:10≤w.heap.size):Bz An 160 #[D7 a,D7 b] w fun v w'=>v = .bool (Nk a b)∧G w w':=by
 have g:=G.refl w;refine Cu 35 [0,1] Tryz.func160 ?_;refine CT fun _ _ _ _ g E=>?_;refine Mt fun _ _ _ _ g E=>?_;refine A5 fun _ _ _ _ g E=>?_;refine AS fun _ _ _ g E=>?_;refine Aw (fun h1=>?_) fun h1=>?_;have hq:(BL a tNil || BL b tNil)=true:=h1;refine Ad ?_;refine DI (T9 _ _ (hL.A g) Dn) (DB fun ah af g E=>?_);refine Ad ?_;refine GA (fun hc=>T9 _ _ (hL.A g) Dn) (DB fun ac ae g E=>?_);refine Cy ?_;unfold Nk;rw [hq];rfl;have hq:(BL a tNil || BL b tNil)=false:=h1;refine Ad ?_;refine' A1 [2,3,4] (fun Ga=>?y2) (Al ?n2)
 case y2 =>
  refine Ad ?_;refine' A1 [2,3,4] (fun aa=>?y3) A0
  case y3 =>
   refine Ad ?_;refine' A1 [2,3,4] (fun ad=>?y4) A0
   case y4 =>
    refine Ad ?_;refine Ci [23,2,3,4] ?_;exact Ai A0
 case n2 =>
  refine Aw (fun h5=>?_) fun h5=>?_;have hr:Cs [1,2,4,6] a.k=true:=h5;refine Ad ?_;refine GA (fun hc=>Vz _ _ (hL.A g) Dn) (DB fun ag ab g E=>?_);refine Cy ?_;unfold Nk;rw [hq,hr];rfl;have hr:Cs [1,2,4,6] a.k=false:=h5;refine Cy ?_;unfold Nk;rw [hq,hr];rfl
theorem Adi(a b:Bo):(((BL a b&&E4 a) && !Ac (a.k=5)) && !Ac (a.k=7))=(bif Cs [1,2,4,6] a.k then BL a b&&KA a else false):=by
 cases BL a b;simp;simp only [GN];unfold E4 Mb Cs Cs Cs Cs;by_cases h1:a.k=1;have:BL a tInt=KA a:=by unfold BL KA;simp [h1,tInt];exact decide_eq_decide.2 Iff.rfl
 have:BL a tBool=false:=by unfold BL;simp [h1,tBool]
 simp_all;by_cases h2:a.k=2;have:BL a tBool=KA a:=by unfold BL KA;simp [h2,tBool];exact decide_eq_decide.2 Iff.rfl
 have:BL a tInt=false:=by unfold BL;simp [h2,tInt]
 simp_all;have AU:BL a tInt=false:=by unfold BL;simp [h1,tInt]
 have e2:BL a tBool=false:=by unfold BL;simp [h2,tBool]
 rw [AU,e2];by_cases h4:a.k=4;simp [h4];by_cases h6:a.k=6;simp [h6];by_cases h5:a.k=5;simp [h5];by_cases h7:a.k=7;simp [h7];simp [h1,h2,h4,h5,h6,h7]
theorem xP(a b:Bo)(w:Ae):Bz An 48 #[D7 a,D7 b] w fun v w'=>v = .bool (Nk a b)∧G w w':=by
 have g:=G.refl w;refine Cu 38 [0,1] Tryz.func48 ?_;refine CT fun _ _ _ _ g E=>?_;refine Mt fun _ _ _ _ g E=>?_;refine A5 fun _ _ _ _ g E=>?_;refine AS fun _ _ _ g E=>?_;refine Aw (fun h1=>?_) fun h1=>?_;have hq:(BL a tNil || BL b tNil)=true:=h1;refine Ad ?_;refine DI (T1 _ _) (DB fun af ac g E=>?_);refine Ad ?_;refine GA (fun hc=>T1 _ _) (DB fun ae ab g E=>?_);refine Cy ?_;unfold Nk;rw [hq];rfl;have hq:(BL a tNil || BL b tNil)=false:=h1;refine Ad ?_;refine GA (fun hc=>PV _ _) (DB fun aa ad g E=>?_);refine Cy ?_;unfold Nk;rw [hq,← Adi];rfl
def tFunc:Bo:=⟨7,[]⟩
def J9:List (List UInt8):=[[],[105,110,116],[98,111,111,108],[110,105,108],[],[91,93,105,110,116],[99,104,97,110,32,105,110,116],[102,117,110,99,40,41],[109,117,116,101,120],[114,119,109,117,116,101,120],[103,114,111,117,112],[111,110,99,101],[97,116,111,109,105,99]]
def NW(w:Ae):Prop:=CQ w 0 0 (J9.map Cg)
theorem NW.A{w w':Ae}(h:NW w)(g:G w w'):NW w':=CQ.A h g
theorem Aer{k:Int}(h0:0≤k)(h1:k≤12):(J9.map Cg)[k.toNat]? = some (Cg (J9.getD k.toNat [])):=by
 have hl:J9.length=13:=rfl;have h:k.toNat<J9.length:=by omega
 rw [List.getElem?_map,A2 h,CC,A2 h];rfl
section
variable {α:Type} {f:α→List Aj} {z:Nat}
theorem Ra(hf:∀ a,(f a).length=z):∀ (l:List α),(l.flatMap f).length=l.length*z
 | []=>by simp
 | a::l=>by rw [Ez,DQ,hf,Ra hf l,D4,Nat.succ_mul,Ip]
theorem Yv(hf:∀ a,(f a).length=z):∀ (l:List α) (i:Nat) (h:i<l.length),((l.flatMap f).drop (i*z)).take z=f l[i]
 | [],_,h=>by cases h
 | a::l,0,_=>by
  rw [Ez,Nat.zero_mul,List.drop_zero,List.take_append_of_le_length (by rw [hf];exact Bu _),L3 (by rw [hf];exact Bu _)];rfl
 | a::l,i+1,h=>by
  have e:(((a::l).flatMap f)).drop ((i+1)*z)=(l.flatMap f).drop (i*z):=by
   rw [Ez,Nat.succ_mul,Ip,← List.drop_drop];congr 1;rw [← hf a,List.drop_left]
  rw [e];exact Yv hf l i (by simpa using h)
def Ly(f:α→List Aj)(w:Ae)(l:List α)(v:Aj):Prop :=
 ∃ p c,v = .slice p l.length c∧l.length≤c∧(0<l.length→∃ b o,p=some ⟨b,o,none⟩∧CQ w b o (l.flatMap f))
theorem Ly.A{w w':Ae}{l:List α}{v:Aj}(h:Ly f w l v)(g:G w w'):Ly f w' l v:=by
 obtain ⟨p,c,rfl,hc,h⟩:=h;refine ⟨p,c,rfl,hc,fun h0=>?_⟩;obtain ⟨b,o,rfl,hR⟩:=h h0;exact ⟨b,o,rfl,hR.A g⟩
theorem PQ(w:Ae):Ly f w [] (.slice none 0 0):=⟨none,0,rfl,Bu _,fun h=>absurd h (Nat.lt_irrefl 0)⟩
theorem nN{w:Ae}{base:Nat}{e:AD}{v:Aj}{m:Nat}{l:List α}(h:w.ownsRow base e z v m (l.flatMap f))(hm:m=l.length):Ly f w l v:=by
 subst hm;obtain ⟨a,c,rfl,hc⟩:=IJ h;refine ⟨a,c,rfl,hc,fun h0=>?_⟩;obtain ⟨b,c',hv,_,hR,_⟩:=LU h h0;injection hv with hv _ _;subst hv;exact ⟨b,0,rfl,hR⟩
theorem OQ(hf:∀ a,(f a).length=z){w:Ae}{b o:Nat}{l:List α}(h:CQ w b o (l.flatMap f)){i:Nat}(hi:i<l.length):CQ w b (o+i*z) (f l[i]):=by
 have:=h.part (i*z) z;rwa [Yv hf l i hi] at this
end
def Agg(b:Nat)(e:AD)(l:List Aj)(w:Ae):Prop:=Ax w b e l
def yS(p q:Ae→Prop)(w:Ae):Prop:=p w∧q w
def nR(w:Ae):Prop:=True
theorem A7{w:Ae}{b:Nat}{e:AD}{l:List Aj}(h:Ax w b e l):Agg b e l w:=h
theorem A6{p q:Ae→Prop}{w:Ae}(h:p w)(k:q w):yS p q w:=⟨h,k⟩
theorem Di(w:Ae):nR w:=Cc
section
variable {P:AJ} {B:List Bf→Ae→Prop} {n:Nat} {N T:Act→Ae→Prop} {X:List (Nat×(Act→Ae→Prop))} {σ:List Ce} {w:Ae}
theorem GR{c:Code}{α:Type}(I:α→Ae→Prop)(E:Ae→Prop)(σc:List Ce)(σf:α→List Ce)(μ:α→Nat)(x0:α)(h0:I x0 w)(hE:E w)(hs:H0 (σf x0 ++ σc) σ)
 (round:∀ x w,I x w→E w→EN P B n c (fun a' w'=>∃ y,Cl n (σf y ++ σc) a'∧I y w'∧E w'∧μ y < μ x) X T (σf x ++ σc) w):EN P B n (.loop c) N X T σ w:=by
 refine PM (fun x w=>I x w∧E w) (fun x=>σf x ++ σc) μ x0 ⟨h0,hE⟩ hs fun x w ⟨h1,h2⟩=>?_;refine .mk fun a ha=>Code.wp_mono (fun e a w q=>?_) (round x w h1 h2 a ha)
 cases e with
 | normal=>obtain ⟨y,q1,q2,q3,q4⟩:=q;exact ⟨y,q1,⟨q2,q3⟩,q4⟩
 | _=>exact q
end
theorem SV{w:Ae}{D:Nat→Prop}:∀ {ls:List Nd} {news:List Aj},FC w D ls news→M6 news=true
 | [],news,h=>by rw [show news=[] from h];rfl
 | t::ls,news,h=>by
  obtain ⟨v,r,rfl,aa,hr⟩:=h;rw [RJ] at aa;obtain ⟨p,c,rfl,_⟩:=aa;have:=SV hr;unfold M6 at this ⊢;rw [List.all_append,this,Bool.and_true];rfl
theorem Ou{w:Ae}{base b:Nat}{e:AD}{z m:Nat}{l:List Aj}(h:Ax w b e l)(hb:base≤b)(hl:l.length=m*z)(hm:m≤1000000):w.ownsRow base e z (.slice (some ⟨b,0,none⟩) m m) m l :=
 ⟨hl,.inr ⟨b,m,l.toArray,rfl,hb,h,Bu _,by simp only [maxLen];omega,by simpa using hl,by simp [← hl]⟩⟩
def J3(base:Nat)(X:List Nat)(b:Nat):Prop:=base≤b∧b∉X
def F5(e:AD)(D:Nat→Prop)(base:Nat)(w:Ae)(ks:List Nd)(s:Aj):Prop :=
 ∃ xs,w.ownsRow base e 9 s ks.length xs∧FC w (fun b=>D b∧some b≠s.ownBlock) ks xs∧∀ b,s.ownBlock=some b→D b
section
variable {e:AD} {D:Nat→Prop} {base:Nat} {w w':Ae} {ks:List Nd} {s:Aj}
theorem ZD(e:AD)(D:Nat→Prop)(base:Nat)(w:Ae):F5 e D base w [] (.slice none 0 0):=⟨[],J5 _ _ _ _,Tc,fun b h=>by cases h⟩
theorem F5.slice(h:F5 e D base w ks s):∃ a c,s = .slice a ks.length c:=by
 obtain ⟨xs,h1,_⟩:=h;obtain ⟨a,c,h2,_⟩:=IJ h1;exact ⟨a,c,h2⟩
theorem F5.ge(h:F5 e D base w ks s):∀ k,s.ownBlock=some k→base≤k:=by
 obtain ⟨xs,h1,_⟩:=h;exact fun k hk=>(h1.lt k hk).1
theorem F5.lt(h:F5 e D base w ks s):∀ k,s.ownBlock=some k→k<w.heap.size:=by
 obtain ⟨xs,h1,_⟩:=h;exact fun k hk=>(h1.lt k hk).2
theorem F5.ne(h:F5 e D base w ks s){b:Nat}(hb:¬ D b):some b≠s.ownBlock:=by
 obtain ⟨xs,_,_,h3⟩:=h;exact fun he=>hb (h3 b he.symm)
theorem F5.A(h:F5 e D base w ks s)(g:G w w'):F5 e D base w' ks s:=by
 obtain ⟨xs,h1,h2,h3⟩:=h;exact ⟨xs,Ef h1 g,h2.A g,h3⟩
theorem F5.C(h:F5 e D base w ks s){b:Nat}(hg:w.grownBy w' (some b))(hb:¬ D b):F5 e D base w' ks s:=by
 obtain ⟨xs,h1,h2,h3⟩:=h;refine ⟨xs,Dg h1 hg (.inr fun he=>hb (h3 b he)),h2.C hg fun k hk _ he=>?_,h3⟩;injection he with he;exact hb (he▸hk.1)
theorem F5.kd(h:F5 e D base w ks s){D':Nat→Prop}(hD:∀ b,D b→D' b):Bv w D' ks s:=by
 obtain ⟨xs,h1,h2,h3⟩:=h;exact sB h1 rfl (h2.mono fun b hb _=>hD b hb.1) fun b hb=>hD b (h3 b hb)
theorem MM{b:Nat}{t:Nd}{v:Aj}(h:Ax w b e (De t v))(hb:base≤b)(hk:Bv w (fun k=>D k∧k≠b) t.j v)(hD:D b):F5 e D base w [t] (.slice (some ⟨b,0,none⟩) 1 1):=by
 refine ⟨_,Ou h hb J BT,DG (hk.mono fun k hk _=>⟨hk.1,fun he=>?_⟩),fun k hk=>?_⟩;injection he with he;exact hk.2 he;injection hk with hk;exact hk▸hD
theorem F5.append{ls:List Nd}{news:List Aj}{a':Option Addr}{c':Nat}{xs:List Aj}(h:F5 e D base w ks s)(hx:w.ownsRow base e 9 s ks.length xs)(hX:FC w (fun b=>D b∧some b≠s.ownBlock) ks xs)
 (hn:FC w (fun b=>D b∧some b≠s.ownBlock) ls news) (hD:D w.heap.size) (ho:w'.ownsRow base e 9 (.slice a' (ks.length+ls.length) c') (ks.length+ls.length) (xs++news)) (hg:w.grownBy w' s.ownBlock)
 (ac:(Fs a' (ks.length+ls.length) c').ownBlock=s.ownBlock∨(Fs a' (ks.length+ls.length) c').ownBlock=some w.heap.size):F5 e D base w' (ks++ls) (.slice a' (ks++ls).length c'):=by
 have aa:(ks++ls).length=ks.length+ls.length:=by simp
 refine ⟨xs++news,by rw [aa];exact ho,?_,?_⟩;have h1:=Rn hX hn;rw [aa];refine MU (fun b hb ab=>⟨hb.1,?_⟩) (fun b hb ab=>hg.block b ab hb.2) _ _ h1;rcases ac with he|he <;> rw [he]
 exact hb.2;intro e;injection e with e;omega;rw [aa];intro b hb;rcases ac with he|he <;> rw [he] at hb
 obtain ⟨_,_,_,h3⟩:=h;exact h3 b hb;injection hb with hb;exact hb▸hD
end
section
variable {P:AJ} {Z:List Bf→Act→Ae→Prop} {ops:List Oper} {cl:List Nat} {lv:List Bool} {W0:Ae} {n:Nat} {K:Act→Ae→Prop} {k:Nat} {rest:List Oper} {σ:List Ce} {w:Ae} {d:Nat} {ty:AD} {pos:String} {after:Array Edge}
theorem bP{t e base q q':Nat}{x y:Bl}{s zv:Aj}{news:List Aj}{b' o':Nat}{D:Nat→Prop}{ks ls:List Nd}(hb:(Ao (Bw cl k) 2&&CR d n)=true)(ht:Gf P t=some (e,9,104))(ad:Gh P e=some zv)
 (ae:zv.cells.size=9) (hx:BI n σ True x s) (hO:F5 e D base w ks s) (hy:BI n σ True y (.slice (some ⟨b',o',none⟩) q q')) (hq:ls.length=q) (hn:CQ w b' o' news) (hK:FC w (fun b=>D b∧some b≠s.ownBlock) ls news)
 (af:ks.length+ls.length≤10000000) (aa:base≤w.heap.size) (hD:D w.heap.size)
 (h:∀ a' c' w',F5 e D base w' (ks++ls) (.slice a' (ks++ls).length c')→w.grownBy w' s.ownBlock→BK P Z ops cl lv W0 n K (k+1) rest ((d,True,.slice a' (ks++ls).length c') :: σ) w') :
 BK P Z ops cl lv W0 n K k (⟨some d,.call { callee:=.builtin .append,args:=#[x,y],argTypes:=#[t,t] },ty,pos,after,none⟩::rest) σ w:=by
 obtain ⟨xs,h1,h2,h3⟩:=id hO;subst hq;have ab:=SV hK;refine Ja hb ht ad ae BT hx h1 hy (RF hK) hn ab (by simp only [maxLen];omega) O aa fun a' c' w' ho hg ac=>?_;have:=h a' c' w' (hO.append h1 h2 hK hD ho hg ac) hg;rwa [DQ] at this
end
theorem oI{l:List Nd}{i:Nat}(f:Nd→Nat)(h:i<l.length):((l.take (i+1)).map f).sum=((l.take i).map f).sum+f l[i]:=by
 rw [cK f l i h,Hp];simp
theorem vV:∀ (t:Nd) (v:Aj) (D:Nat→Prop) (w:Ae),Bv w D t.j v→count t≤4611686018427387904→Bz An 21 #[Cd t v] w fun r w'=>r = .int .i64 (count t:Nat)∧G w w':=by
 refine Nd.ap fun t ih v D w hk hc=>?_;obtain ⟨p,c,rfl,af,ad⟩:=hk;have g:=G.refl w;have ae:=ED t;refine Cu 21 [0] Tryz.func21 ?_;refine CT fun _ w1 _ _ g E=>?_;refine Ad ?_;refine Hi (fun (i:Nat) u1=>(i≤t.j.length)∧G w1 u1) [(1,True,_),(2,True,_)] (fun (i:Nat)=>[(3,True,.int .i64 ((1+((t.j.take i).map count).sum:Nat):Int)),(4,True,.int .i64 i)]) (fun (i:Nat)=>t.j.length-i) (0) ⟨by simp,G.refl _⟩ Bp ?_;rintro i u1 ⟨ag,aa⟩;have g:=g.trans aa;replace E:=E.A aa;refine Am (Am (Au (Ap J (AE AY J (AM Bh J (E.J.y J) (EI AC J (GG J J (Ai (Al (Cv J (fun h1=>?_) (fun h1=>?_)))))))))));have h1:i<t.j.length:=by simp only [BM] at h1;omega
 obtain ⟨b,o,rfl,hD,xs,hR,hX⟩:=ad O;obtain ⟨p',c',hcell,ab⟩:=JD hR hX h1;have ah:=KG h1;refine CJ (Al (Am (DF (Au (Ap J (AE AY J (AM Bh J (E.J.y J) (Ap J (Hn AC J J O (Ct A3 J J (hcell.A g) (F0 J (BF Ado BX (Cn J CI) J) (ih _ (E8 h1) _ _ _ (ab.A g) O) (fun ai ac=>?_))))))))))));have aa:=aa.trans (ac);replace E:=E.A ac;refine Ad ?_;refine Ci [3,4,1,2] ?_;refine Ai (fun a ha=>?_);have e:((1+((t.j.take i).map count).sum:Nat):Int)+(count t.j[i]:Nat)=((1+((t.j.take (i+1)).map count).sum:Nat):Int):=by rw [oI count h1];omega
 rw [e] at ha;exact ⟨i+1,ha,⟨h1,aa⟩,O⟩;have h1:i=t.j.length:=by simp only [CB] at h1;omega
 refine AN ?_;refine ⟨?_,g⟩;rw [h1,FI,← J7]
theorem SM{α:Type}{l:List α}{i:Nat}(h:i<l.length):l.take (i+1)=l.take i++[l[i]]:=by
 rw [Ht,A2 h];rfl
def nK(t:Nd)(base:Nat)(r:Aj)(w:Ae):Prop:=∃ p c,r=Cd t (.slice p t.j.length c)∧Bv w (fun b=>base≤b) t.j (.slice p t.j.length c)
theorem tN:∀ (t:Nd) (v:Aj) (D:Nat→Prop) (w:Ae),Bv w D t.j v→t.j.length≤1000000→count t≤1000000→Bz An 12 #[Cd t v] w fun r w'=>nK t w.heap.size r w'∧G w w':=by
 refine Nd.ap fun t ih v D w hk ap hc=>?_;obtain ⟨p,c,rfl,aq,an⟩:=hk;have g:=G.refl w;refine JB (m:=25) Tryz.func12 J J [(0,True,_)] Bp ?_;refine Am (Au (Jr J (Ab J) J ?_));intro b1 w1 N1;have l1:=N1.ge g;have g:=g.trans N1.g;have E:=(IQ _).new N1;refine En J Cp J ?_;intro b2 w2 N2;have l2:=N2.ge g;have g:=g.trans N2.g;replace E:=E.new N2;refine Ai (Al (Am (Au (AE AY J (AM Bh J (E.U.y J) (Bj J (Ai (Al (Am (Au (AE AY J (Jl Me J J J E.U ?_))))))))))));intro a3 ad _ BS;replace E:=E.s1 ad BS;have g:=BJ g ad O;refine Ai (Al (Am (Am (Au (Bj J (Ai (Al (DF (?_)))))))));have aj:=E.1;refine GR (fun (i:Nat) u1=>(i≤t.j.length∧∃ s,Ax u1 b1 26 (De t s)∧F5 26 (J3 w.heap.size [b1,b2]) w.heap.size u1 (t.j.take i) s)∧G w u1) _ [(1,True,_),(2,True,_),(3,True,_)] (fun (i:Nat)=>[(4,True,.int .i64 i)]) (fun (i:Nat)=>t.j.length-i) (0) ⟨⟨CW _,_,E.U,ZD _ _ _ _⟩,g⟩ (A6 (A7 E.J) (Di _)) Bp ?_;clear E;rintro i u1 ⟨ao,am⟩ ⟨B2,_⟩;replace B2:Ax _ _ _ _:=B2;have g:=am;obtain ⟨hi,s,B1,hO⟩:=ao;obtain ⟨sa,sc,rfl⟩:=hO.slice;have E:=GX (L:=[(b2,_,_),(b1,_,_)]) aj ⟨B2,B1,Cc⟩ rfl;refine Am (Am (Au (Ap J (Ap J (EI AC J (GG J J (Ai (Al (Cv J (fun h1=>?_) (fun h1=>?_))))))))));have h1:i<t.j.length:=by simp only [BM] at h1;omega
 obtain ⟨b,o,rfl,hD,xs,hR,hX⟩:=an O;obtain ⟨p',c',hcell,al⟩:=JD hR hX h1;have au:=KG h1;have a2:=ED t.j[i];have hu:=g.size;refine CJ (Al (Am (DF (Dj [3,0,3,3,3,0,1,1,2,3,2] ?_))));refine FY fun g E=>?_;have hO:=hO.A (G.drew _);have af:=E.U.lt;have ai:=E.J.lt;have ak:=hO.lt;refine AE AY J (AM Bh J (E.U.y J) (Ap J (Ap J (Hn AC J J O (Ct A3 J J (hcell.A g) (EB J (BF Zq BX (Cn J CI) J) (ih _ (E8 h1) _ _ _ (al.A g) O O) ?_))))));rintro a5 az ⟨⟨p2,c2,rfl,ah⟩,ag⟩;refine Ev ag fun g=>?_;replace E:=E.A ag;have hO:=hO.A (ag);refine Fe _ J AC Cp (Bk J CH) J J ?_;intro a1 ar ab;have av:=ab.ge g;have g:=g.trans ab.g;have hO:=hO.A (ab.g);replace E:=E.new ab;have ah:=ah.A ab.g;have hOo:=hO;refine bP J AC Cp J (Ab J) hO (Ab J) J E.J.row (DG (ah.mono fun k hk _=>⟨⟨by have:u1.heap.size≤k:=hk;omega,by have:u1.heap.size≤k:=hk;have:=af;have:=ai;simp;omega⟩,fun he=>by have:=ak k he.symm;have:u1.heap.size≤k:=hk;omega⟩)) (by simp;omega) Dn ⟨by have:=g.size;omega,by have q1:=E.g2.lt;have q2:=E.U.lt;simp;omega⟩ ?_;intro aw ay ax hO ae;replace E:=E.sel [false,true,true];replace E:=E.C ae (E0.2 ⟨(hOo.ne (by simp [J3])),E0.2 ⟨(hOo.ne (by simp [J3])),IH _⟩⟩);have g:=Nj g ae Fo;refine AE AY J (Jl Me J J J E.U ?_);intro a6 aa _ BS;replace E:=E.s1 aa BS
 have g:=BJ g aa O;have hO:=hO.C aa (by simp [J3]);refine Ai (Al (Au (Ap J (H2 J J O (Bj J (EV [(4,_,_),(1,_,_),(2,_,_),(3,_,_)] Bp (Ai (fun a ha=>?_))))))));exact ⟨i+1,ha,⟨⟨h1,_,E.U,by rw [SM h1];exact hO⟩,g⟩,(A6 (A7 E.J) (Di _)),O⟩;have h1:i=t.j.length:=by simp only [CB] at h1;omega
 subst h1;rw [FI] at hO E;refine L7 J (Al (Am (Au (Ct A3 J J E.U.row (FH Fm J J J E.J ?_)))));intro a4 ac _ BS;replace E:=E.s0 ac BS;have g:=BJ g ac O;have hO:=hO.C ac (by simp [J3]);refine Ai (Al (Dl (LJ J (GJ J A3 J (E.J.row) (GD)) ?_)));exact ⟨⟨_,_,rfl,hO.kd fun b hb=>hb.1⟩,g⟩
def GC(t:Nd):List Nd:=Jx (fun t l=>t::l.flatten) t
theorem Vu(t:Nd):GC t=t::t.j.flatMap GC:=by rw [GC,Lw,List.flatMap_def];rfl
theorem jZ:∀ t,(GC t).length=count t:=by
 refine Nd.ap fun t ih=>?_;rw [Vu,J7,D4,LX,Ip];congr 2;exact LR ih
theorem Ach{l:List Nd}{i:Nat}(h:i<l.length):(l.take (i+1)).flatMap GC=(l.take i).flatMap GC++GC l[i]:=by rw [SM h,LN];simp only [Ez,List.flatMap_nil,Ha]
theorem mD(l:List Nd)(i:Nat):((l.take i).flatMap GC).length=((l.take i).map count).sum:=by
 rw [LX];congr 1;exact LR fun k _=>jZ k
theorem Ads:∀ (t:Nd) (v:Aj) (D:Nat→Prop) (w:Ae),Bv w D t.j v→count t≤1000000→Bz An 18 #[Cd t v] w fun r w'=>Bv w' (fun b=>D b∨w.heap.size≤b) (GC t) r∧G w w':=by
 refine Nd.ap fun t ih v D w hk hc=>?_;obtain ⟨p,c,rfl,ag,ae⟩:=hk;have aq:=ED t;have ap:Bv w (fun b=>D b∧b<w.heap.size) t.j (.slice p t.j.length c):=Bv.lt ⟨p,c,rfl,ag,ae⟩;have g:=G.refl w;refine JB (m:=23) Tryz.func18 J J [(0,True,_)] Bp ?_;refine Am (Au (Jr J (Ab J) J ?_));intro b1 w1 N1;have l1:=N1.ge g;have g:=g.trans N1.g;have E:=(IQ _).new N1;refine Bj J (Ai (Al (Am (Au (Ct A3 J J E.J.row (Fe _ J AC Cp (Bk J CH) J J ?_))))));intro b6 w6 N6;have l6:=N6.ge g;have g:=g.trans N6.g;replace E:=E.new N6;have au:=E.ne 0 1 rfl rfl rfl;have hO:F5 26 (fun b=>(D b∧b<w.heap.size)∨J3 w.heap.size [b1] b) w.heap.size w6 [t] (.slice (some ⟨b6,0,none⟩) 1 1):=MM E.J l6 ((ap.A g).mono fun k hk _=>⟨.inl hk,O⟩) (.inr ⟨l6,by simp;omega⟩);refine Bj J (Ai (Al (Am (Am (Au (Bj J (Ai (Al (DF (?_))))))))));replace E:=E.sel [false,true];have ac:=E.1;refine GR (fun (x:Nat×Option Addr×Nat) u1=>match x with|⟨i,a,ca⟩=>(i≤t.j.length∧F5 26 (fun b=>(D b∧b<w.heap.size)∨J3 w.heap.size [b1] b) w.heap.size u1 (t::(t.j.take i).flatMap GC) (.slice a (t::(t.j.take i).flatMap GC).length ca))∧G w u1) _ [(1,True,_),(2,True,_)] (fun (x:Nat×Option Addr×Nat)=>match x with|⟨i,a,ca⟩=>[(3,True,.slice a (t::(t.j.take i).flatMap GC).length ca),(4,True,.int .i64 i)]) (fun (x:Nat×Option Addr×Nat)=>match x with|⟨i,a,ca⟩=>t.j.length-i) ((0,some ⟨b6,0,none⟩,1)) ⟨⟨CW _,hO⟩,g⟩ (A6 (A7 E.J) (Di _)) Bp ?_;clear E;rintro ⟨i,a,ca⟩ u1 ⟨an,ak⟩ ⟨B1,_⟩;replace B1:Ax _ _ _ _:=B1;have g:=ak;obtain ⟨hi,hO⟩:=an
 have E:=GX (L:=[(b1,_,_)]) ac ⟨B1,Cc⟩ rfl;refine Am (Am (Au (Ap J (AE AY J (AM Bh J (E.J.y J) (EI AC J (GG J J (Ai (Al (Cv J (fun h1=>?_) (fun h1=>?_)))))))))));have h1:i<t.j.length:=by simp only [BM] at h1;omega
 obtain ⟨b,o,rfl,hD,xs,hR,hX⟩:=ae O;obtain ⟨p',c',hcell,af⟩:=JD hR hX h1;have aw:=KG h1;have a3:=mD t.j i;have hu:=g.size;have aj:=E.J.lt;have ad:=hO.lt;refine CJ (Al (Am (DF (Au (Ap J (AE AY J (AM Bh J (E.J.y J) (Ap J (Hn AC J J O (Ct A3 J J (hcell.A g) (EB J (BF dV BX (Cn J CI) J) (ih _ (E8 h1) _ (fun b=>D b∧b<w.heap.size) _ (af.b6 g) O) ?_)))))))))));rintro a4 az ⟨⟨p2,c2,rfl,a2,ah⟩,ab⟩;refine Ev ab fun g=>?_;have ax:=jZ t.j[i];have ar:=JY t.j[i];obtain ⟨b2,o2,rfl,ay,ys,al,ai⟩:=ah O;replace E:=E.A ab;have hO:=hO.A (ab);have hOo:=hO;refine bP J AC Cp J (Ab J) hO (Ab J) J al (ai.mono fun k hk _=>⟨hk.elim .inl fun h=>.inr ⟨by have h:u1.heap.size≤k:=h;omega,by have h:u1.heap.size≤k:=h;simp;omega⟩,fun he=>by have:=ad k he.symm;have a1:=hO.ge k he.symm;rcases hk with ⟨_,h⟩|h <;> omega⟩) (by rw [D4];omega) Dn (.inr ⟨by have:=g.size;omega,by have:=E.J.lt;simp;omega⟩) ?_
 intro am ao av hO aa;replace E:=E.C aa (E0.2 ⟨(hOo.ne (by rintro (h|h);exact absurd h.2 O;simp [J3] at h)),IH _⟩);have g:=Nj g aa Fo;refine Bj J (Ai (Al (Au (Ap J (H2 J J O (Bj J (EV [(3,_,_),(4,_,_),(1,_,_),(2,_,_)] Bp (Ai (fun a ha=>?_)))))))));rw [show t::(t.j.take i).flatMap GC++GC t.j[i]=t::(t.j.take (i+1)).flatMap GC by rw [Ach h1];rfl] at ha hO;exact ⟨(i+1,am,ao),ha,⟨⟨h1,hO⟩,g⟩,(A6 (A7 E.J) (Di _)),by show t.j.length-(i+1)<t.j.length-i;omega⟩;have h1:i=t.j.length:=by simp only [CB] at h1;omega
 subst h1;rw [FI,← Vu] at hO;refine L7 J (Al (Am (Au (Ap J (Bj J (Ai (Al (Dl (Fp J J ?_)))))))));refine ⟨?_,g⟩;rw [FI,← Vu];exact hO.kd fun b hb=>hb.elim (fun h=>.inl h.1) (fun h=>.inr h.1)
def II:List (List UInt8):=[[105,110,116],[98,111,111,108],[91,93,105,110,116],[99,104,97,110],[102,117,110,99],[109,117,116,101,120],[114,119,109,117,116,101,120],[103,114,111,117,112],[111,110,99,101],[97,116,111,109,105,99]]
def ID(s:List UInt8):Bool:=Ep II s
theorem Aek(s:List UInt8)(w:Ae):Bz An 98 #[Cg s] w fun v w'=>v = .bool (ID s)∧G w w':=by
 have g:=G.refl w;refine Cu 15 [0] Tryz.func98 ?_;refine Ad ?_;refine' A1 [2] (fun ae=>?y1) (Al ?n1)
 case y1 =>
  refine Ad ?_;refine' A1 [2] (fun Ga=>?y2) A0
  case y2 =>
   refine Ad ?_;refine' A1 [2] (fun ad=>?y3) A0
   case y3 =>
    refine Ad ?_;refine' A1 [2] (fun ac=>?y4) A0
    case y4 =>
     refine Ad ?_;refine' A1 [2] (fun af=>?y5) A0
     case y5 =>
      refine Ad ?_;refine' A1 [2] (fun ah=>?y6) A0
      case y6 =>
       refine Ad ?_;refine' A1 [2] (fun ag=>?y7) A0
       case y7 =>
        refine Ad ?_;refine' A1 [2] (fun ab=>?y8) A0
        case y8 =>
         refine Ad ?_;refine' A1 [2] (fun ai=>?y9) A0
         case y9 =>
          refine Ad ?_;refine Ci [4,2] ?_;exact Ai A0
 case n1 =>
  refine Aw (fun aa=>?_) fun aa=>?_;(try simp only [BH] at aa);refine Cy ?_;simp only [ID,Ep,II];exact (aa).symm;refine Cy ?_;simp only [ID,Ep,II];exact (aa).symm
def Kc(t:Nd):Bool:=Ac ((t.j.length:Int)=0)
def He(t:Nd):Bool:=bif Ac (t.k=8) then FK t.o&&Kc t else bif Ac (t.k=7) then ID t.o&&Kc t else false
theorem TN(t:Nd)(p:Option Addr)(c:Nat)(w:Ae):Bz An 81 #[Cd t (.slice p t.j.length c)] w fun v w'=>v = .bool (He t)∧G w w':=by
 have g:=G.refl w;refine Cu 27 [0] Tryz.func81 ?_;refine CT fun _ _ _ _ g E=>?_;refine Aw (fun h1=>?_) fun h1=>?_;(try simp only [BH] at h1);refine Ad ?_;refine DI (NK _ _) (DB fun w9 g9 g E=>?_);refine Cy ?_;unfold He;simp only [h1,AL,AQ] <;> rfl
 refine Aw (fun h2=>?_) fun h2=>?_;(try simp only [BH] at h2);refine Ad ?_;refine DI (Aek _ _) (DB fun aa ab g E=>?_);refine Cy ?_;unfold He;simp only [h1,h2,AL,AQ] <;> rfl
 refine Cy ?_;unfold He;simp only [h1,h2,AL,AQ] <;> rfl
def Ky:List (List UInt8):=[[124,124],[38,38],[61,61],[33,61],[60],[60,61],[62],[62,61],[43],[45],[42],[47],[37]]
theorem Acb(s:List UInt8)(w:Ae):Bz An 128 #[Cg s] w fun v w'=>v = .bool (Ep Ky s)∧G w w':=by
 have g:=G.refl w;refine Cu 18 [0] Tryz.func128 ?_;refine Ad ?_;refine' A1 [2] (fun ah=>?y1) (Al ?n1)
 case y1 =>
  refine Ad ?_;refine' A1 [2] (fun Ga=>?y2) A0
  case y2 =>
   refine Ad ?_;refine' A1 [2] (fun ag=>?y3) A0
   case y3 =>
    refine Ad ?_;refine' A1 [2] (fun af=>?y4) A0
    case y4 =>
     refine Ad ?_;refine' A1 [2] (fun ai=>?y5) A0
     case y5 =>
      refine Ad ?_;refine' A1 [2] (fun ak=>?y6) A0
      case y6 =>
       refine Ad ?_;refine' A1 [2] (fun aj=>?y7) A0
       case y7 =>
        refine Ad ?_;refine' A1 [2] (fun ae=>?y8) A0
        case y8 =>
         refine Ad ?_;refine' A1 [2] (fun al=>?y9) A0
         case y9 =>
          refine Ad ?_;refine' A1 [2] (fun ac=>?y10) A0
          case y10 =>
           refine Ad ?_;refine' A1 [2] (fun ab=>?y11) A0
           case y11 =>
            refine Ad ?_;refine' A1 [2] (fun ad=>?y12) A0
            case y12 =>
             refine Ad ?_;refine Ci [4,2] ?_;exact Ai A0
 case n1 =>
  refine Aw (fun aa=>?_) fun aa=>?_;(try simp only [BH] at aa);refine Cy ?_;simp only [Ep,Ky];exact (aa).symm;refine Cy ?_;simp only [Ep,Ky];exact (aa).symm
def wV:List (List UInt8×Int):=[([105,110,116],1),([98,111,111,108],2),([91,93,105,110,116],5),([99,104,97,110],6),([102,117,110,99],7),([109,117,116,101,120],8),([114,119,109,117,116,101,120],9),([103,114,111,117,112],10),([111,110,99,101],11),([97,116,111,109,105,99],12)]
def Ml(s:List UInt8):Int:=(wV.lookup s).getD 0
def Bx(t:Nd):Bo×Bool :=
 bif !Kc t then (Az,false)
 else bif Ac (t.k=9) then (Az,Ac (t.o=[]))
 else bif Ac (t.k=8) then (bif FK t.o then (⟨4,t.o⟩,true) else (Az,false))
 else bif Ac (t.k=7) then (bif ID t.o then (⟨Ml t.o,[]⟩,true) else (Az,false))
 else (Az,false)
theorem pI:((List.range 13).all fun i=>Ep [[],[110,105,108],[99,104,97,110,32,105,110,116],[102,117,110,99,40,41]] (J9.getD i []) || (ID (J9.getD i [])&&Ac (Ml (J9.getD i [])=(i:Int))))=true:=Ag
theorem MQ{i:Nat}(hi:i<13){s:List UInt8}(hs:Ep [[],[110,105,108],[99,104,97,110,32,105,110,116],[102,117,110,99,40,41]] s=false)(h:J9.getD i []=s):ID s=true∧Ml s=i:=by
 have:=E6.1 pI i (List.mem_range.2 hi);rw [h,hs] at this;simpa using this
theorem Aeu:(II.all fun s=>Ep [[99,104,97,110],[102,117,110,99]] s || (List.range 13).any fun i=>Ac (J9.getD i []=s))=true:=Ag
theorem MK{s:List UInt8}(h1:Ac (s=[99,104,97,110])=false)(h2:Ac (s=[102,117,110,99])=false)(h:∀ i,i<13→J9.getD i []≠s):ID s=false:=by
 cases hn:ID s;rfl;have:=E6.1 Aeu s ((Le _ _).1 hn);simp only [Ep,h1,h2,Dr,Bool.false_or,List.any_eq_true,BM,List.mem_range] at this;obtain ⟨i,hi,he⟩:=this;exact absurd he (h i hi)
theorem M4{s:List UInt8}(h:Ep [[],[110,105,108],[99,104,97,110,32,105,110,116],[102,117,110,99,40,41]] s=true):ID s=false:=by
 have:=(Le _ _).1 h;simp only [List.mem_cons,List.not_mem_nil,or_false] at this;rcases this with rfl|rfl|rfl|rfl <;> rfl
theorem iS(t:Nd)(p:Option Addr)(c:Nat)(w:Ae)(hL:Laid w)(am:10≤w.heap.size)(ag:NW w)(ah:t.j.length≤1000000):Bz An 85 #[Cd t (.slice p t.j.length c)] w fun v w'=>v = .tuple #[D7 (Bx t).1,.bool (Bx t).2]∧G w w':=by
 have g:=G.refl w;refine Cu 56 [0] Tryz.func85 ?_;refine CT fun _ w1 _ _ g E=>?_;refine A5 fun b2 w2 _ _ g E=>?_;refine Aw (fun h1=>?_) fun h1=>?_
 have hq:Kc t=false:=by
  have:0<t.j.length:=by simp only [BM] at h1;omega
  unfold Kc;rw [CB];omega
 refine ER ?_;have h0:Cg [] = .string ⟨#[]⟩:=rfl;unfold Bx;simp only [hq,Cj,Cq,h1,AL,AQ]
 first
 | rfl
 | (rw [AH h6];rfl)
 | (rw [AH h7];rfl)
 | (rw [M4 aa];rfl)
 | (obtain ⟨AU,e2⟩:=MQ ab aa (AH ac);rw [AU,e2];rfl)
 | (rw [MK h6 h7 (fun j hj=>ad.2 j O)];rfl)
 have hq:Kc t=true:=by
  unfold Kc;rw [BM];simp only [CB] at h1;omega
 refine Aw (fun h2=>?_) fun h2=>?_;(try simp only [BH] at h2);refine Ad ?_;refine Dx (Ej (some b2)) [3,3,0,3,1,3] [0,0,2,6,1,31] CG Ag [0,1,2,3,4,5] J ?_;refine FY fun g E=>?_;refine As 0 J J (fun _=>Jj [_,_] FF J Ia (IR) J) (As 1 J J (fun _=>AB E2 (Ab J)) (Bb 2 J J (fun w1 hx=>AZ DW (Ab J) (fun _=>(E.U.C hx (fun h=>E.ne 1 0 J J J (EM h))).y J)) (As 3 J J (fun _=>OB (Ab J) Bd) (AW 4 J J ?_))));refine Bt (L':=[5]) [3,3,0,3,2,3] J J J ?_;refine AS fun _ af _ g E=>?_;refine Bs (af) ?_;refine As 5 J J (fun _=>Fj (Ab J)) (Dt [2,3] (FW (Al (Dl (IZ (rs:=[.cell 2 24,.tmp 3]) (vs:=[_,_]) J J (GJ J Cf J (E.J.row) (Ij J (GD))) J ?_)))));refine ⟨?_,g⟩;have h0:Cg [] = .string ⟨#[]⟩:=rfl;unfold Bx;simp only [hq,Cj,Cq,h1,h2,AL,AQ]
 first
 | rfl
 | (rw [AH h6];rfl)
 | (rw [AH h7];rfl)
 | (rw [M4 aa];rfl)
 | (obtain ⟨AU,e2⟩:=MQ ab aa (AH ac);rw [AU,e2];rfl)
 | (rw [MK h6 h7 (fun j hj=>ad.2 j O)];rfl)
 refine Aw (fun h3=>?_) fun h3=>?_;(try simp only [BH] at h3);refine Ad ?_;refine DI (dB _ _ (hL.A g) Dn) (DB fun aj an g E=>?_);refine Ai (Al (Cv J (fun h4=>?_) (fun h4=>?_)));(try simp only [BH] at h4);refine Am (Au (AE E2 J (AM DW J (E.U.y J) (Hg FF Ia (Bk J (Bk J CH)) J J (AS fun _ _ _ g E=>?_)))));refine AN ?_;refine ⟨?_,g⟩;have h0:Cg [] = .string ⟨#[]⟩:=rfl;unfold Bx;simp only [hq,Cj,Cq,h1,h2,h3,h4,AL,AQ]
 first
 | rfl
 | (rw [AH h6];rfl)
 | (rw [AH h7];rfl)
 | (rw [M4 aa];rfl)
 | (obtain ⟨AU,e2⟩:=MQ ab aa (AH ac);rw [AU,e2];rfl)
 | (rw [MK h6 h7 (fun j hj=>ad.2 j O)];rfl)
 refine ER ?_;have h0:Cg [] = .string ⟨#[]⟩:=rfl;unfold Bx;simp only [hq,Cj,Cq,h1,h2,h3,h4,AL,AQ]
 first
 | rfl
 | (rw [AH h6];rfl)
 | (rw [AH h7];rfl)
 | (rw [M4 aa];rfl)
 | (obtain ⟨AU,e2⟩:=MQ ab aa (AH ac);rw [AU,e2];rfl)
 | (rw [MK h6 h7 (fun j hj=>ad.2 j O)];rfl)
 refine Aw (fun h5=>?_) fun h5=>?_;(try simp only [BH] at h5);refine Aw (fun h6=>?_) fun h6=>?_;(try simp only [BH] at h6);refine ER ?_;have h0:Cg [] = .string ⟨#[]⟩:=rfl;unfold Bx;simp only [hq,Cj,Cq,h1,h2,h3,h5,h6,AL,AQ]
 first
 | rfl
 | (rw [AH h6];rfl)
 | (rw [AH h7];rfl)
 | (rw [M4 aa];rfl)
 | (obtain ⟨AU,e2⟩:=MQ ab aa (AH ac);rw [AU,e2];rfl)
 | (rw [MK h6 h7 (fun j hj=>ad.2 j O)];rfl)
 refine Aw (fun h7=>?_) fun h7=>?_;(try simp only [BH] at h7);refine ER ?_;have h0:Cg [] = .string ⟨#[]⟩:=rfl;unfold Bx;simp only [hq,Cj,Cq,h1,h2,h3,h5,h6,h7,AL,AQ]
 first
 | rfl
 | (rw [AH h6];rfl)
 | (rw [AH h7];rfl)
 | (rw [M4 aa];rfl)
 | (obtain ⟨AU,e2⟩:=MQ ab aa (AH ac);rw [AU,e2];rfl)
 | (rw [MK h6 h7 (fun j hj=>ad.2 j O)];rfl)
 refine Ad ?_;refine' A1 [1,2,3] (fun ak=>?y8) (Al ?n8)
 case y8 =>
  refine Ad ?_;refine' A1 [1,2,3] (fun al=>?y9) A0
  case y9 =>
   refine Ad ?_;refine' A1 [1,2,3] (fun ai=>?y10) A0
   case y10 =>
    refine Ad ?_;refine Ci [37,1,2,3] ?_;exact Ai A0
 case n8 =>
  refine Cv J (fun aa=>?_) (fun aa=>?_);have aa:(Ep [[],[110,105,108],[99,104,97,110,32,105,110,116],[102,117,110,99,40,41]] t.o)=true:=aa;refine Am (Au (Hg FF Ia CH J J (AS fun _ _ _ g E=>?_)));refine Bj J (Ai (Al (Dl (IZ (rs:=[.cell 2 24,.tmp 3]) (vs:=[_,_]) J J (GJ J Cf J (E.J.row) (Ij J (GD))) J ?_))));refine ⟨?_,g⟩;have h0:Cg [] = .string ⟨#[]⟩:=rfl;unfold Bx;simp only [hq,Cj,Cq,h1,h2,h3,h5,h6,h7,aa,AL,AQ]
  first
  | rfl
  | (rw [AH h6];rfl)
  | (rw [AH h7];rfl)
  | (rw [M4 aa];rfl)
  | (obtain ⟨AU,e2⟩:=MQ ab aa (AH ac);rw [AU,e2];rfl)
  | (rw [MK h6 h7 (fun j hj=>ad.2 j O)];rfl)
  have aa:(Ep [[],[110,105,108],[99,104,97,110,32,105,110,116],[102,117,110,99,40,41]] t.o)=false:=aa;refine CJ (Al (Am (Au (Ct hJ J J (ag.A g) (Ap J (Ai (Al (DF (Hi (fun (i:Nat) u1=>(i≤13∧∀ j,j<i→J9.getD j []≠t.o)∧G w2 u1) [(1,True,_),(2,True,_),(43,True,_)] (fun (i:Nat)=>[(44,True,.int .i64 i)]) (fun (i:Nat)=>13-i) (0) ⟨⟨CW _,fun j hj=>absurd hj (Iz j)⟩,G.refl _⟩ Bp ?_)))))))));rintro i u1 ⟨ad,ae⟩;have g:=g.trans ae;replace E:=E.A ae;refine Am (Au (GG J J (Ai (Al (Am (Cv J (fun ab=>?_) (fun ab=>?_)))))));have ab:i<13:=by simp only [BM] at ab;omega
  refine CJ (Al (Am (DF (Am (Au (Ap J (AR J (fun _=>gK sY (Ab J) (Ab J) (fun _=>O) (fun _=>by show (J9.map Cg).toArray[((i:Nat):Int).toNat]? = _;rw [List.getElem?_toArray];exact Aer (k:=(i:Int)) O O)) (Bj J (Bj J (Ai (Al (Am (Au (Ap J (AE E2 J (AM DW J (E.U.y J) (MD J J (?_))))))))))))))))));refine Ai (Al (Cv J (fun ac=>?_) (fun ac=>?_)));have ac:(Ac (J9.getD i []=t.o))=true:=ac;refine AS fun _ ga _ g E=>?_;first|replace ae:=BJ ae ga O|clear ae|skip
  refine AN ?_;refine ⟨?_,g⟩;have h0:Cg [] = .string ⟨#[]⟩:=rfl;unfold Bx;simp only [hq,Cj,Cq,h1,h2,h3,h5,h6,h7,aa,ab,ac,AL,AQ]
  first
  | rfl
  | (rw [AH h6];rfl)
  | (rw [AH h7];rfl)
  | (rw [M4 aa];rfl)
  | (obtain ⟨AU,e2⟩:=MQ ab aa (AH ac);rw [AU,e2];rfl)
  | (rw [MK h6 h7 (fun j hj=>ad.2 j O)];rfl)
  have ac:(Ac (J9.getD i []=t.o))=false:=ac;refine Ad ?_;refine Ci [44,1,2,43] ?_;refine Ai (fun a ha=>?_)
  exact ⟨i+1,ha,⟨⟨ab,fun j hj=>by
   by_cases e:j=i;subst e;simpa using ac;exact ad.2 j O⟩,ae⟩,O⟩
  have ab:i=13:=by simp only [CB] at ab;omega
  refine AS fun _ ga _ g E=>?_;first|replace ae:=BJ ae ga O|clear ae|skip
  refine AN ?_;refine ⟨?_,g⟩;have h0:Cg [] = .string ⟨#[]⟩:=rfl;unfold Bx;simp only [hq,Cj,Cq,h1,h2,h3,h5,h6,h7,aa,ab,AL,AQ]
  first
  | rfl
  | (rw [AH h6];rfl)
  | (rw [AH h7];rfl)
  | (rw [M4 aa];rfl)
  | (obtain ⟨AU,e2⟩:=MQ ab aa (AH ac);rw [AU,e2];rfl)
  | (rw [MK h6 h7 (fun j hj=>ad.2 j O)];rfl)
 refine ER ?_;have h0:Cg [] = .string ⟨#[]⟩:=rfl;unfold Bx;simp only [hq,Cj,Cq,h1,h2,h3,h5,AL,AQ]
 first
 | rfl
 | (rw [AH h6];rfl)
 | (rw [AH h7];rfl)
 | (rw [M4 aa];rfl)
 | (obtain ⟨AU,e2⟩:=MQ ab aa (AH ac);rw [AU,e2];rfl)
 | (rw [MK h6 h7 (fun j hj=>ad.2 j O)];rfl)
structure JI where
  name:List UInt8
  ty:Bo
def KY(f:JI):List Aj:=[Cg f.name,.int .i64 f.ty.k,Cg f.ty.name]
theorem Yk(f:JI):(KY f).length=3:=rfl
section
variable {α β:Type} (f:α→Option β)
def HV:List α→Option (List β)
 | []=>some []
 | a::l=>match f a,HV l with
  | some b,some r=>some (b::r)
  | _,_=>none
theorem gQ:∀ (l:List α) (a:α),HV f (l++[a])=match HV f l,f a with
  | some r,some b=>some (r++[b])
  | _,_=>none
 | [],a=>by simp only [HV,List.nil_append];cases f a <;> rfl
 | x::l,a=>by
  rw [List.cons_append,HV,gQ l a,HV];cases f x <;> cases HV f l <;> cases f a <;> rfl
theorem RI:∀ (l:List α) (a:α),a∈l→f a=none→HV f l=none
 | x::l,a,h,hn=>by
  rw [HV];rcases List.mem_cons.1 h with rfl|h;rw [hn];rw [RI l a h hn];cases f x <;> rfl
theorem Sc:∀ (l:List α) (r:List β),HV f l=some r→r.length=l.length
 | [],r,h=>by injection h with h;subst h;rfl
 | x::l,r,h=>by
  rw [HV] at h
  cases h1:f x with
  | none=>rw [h1] at h;cases h
  | some b =>
   cases h2:HV f l with
   | none=>rw [h1,h2] at h;cases h
   | some r'=>rw [h1,h2] at h;injection h with h;subst h;rw [D4,Sc l r' h2];rfl
end
def Oe(t:Nd):Nd:=t.j.getD 0 Fr
def G5(f:Nd):Option JI:=bif !Ac (f.k=3) || !Ac ((f.j.length:Int)=1) then none else bif (Bx (Oe f)).2 then some ⟨f.o,(Bx (Oe f)).1⟩ else none
def Kk(name:List UInt8)(d:Nd):Bool:=!(!Ac (d.k=2) || !Ac (d.o=name))
def F8(t:Nd)(name:List UInt8):List JI×Bool:=match t.j.find? (Kk name) with
 | none=>([],false)
 | some d=>match HV G5 d.j with
  | none=>([],false)
  | some l=>(l,true)
theorem bB{name:List UInt8}{l:List Nd}{i:Nat}(hi:i<l.length)(h1:∀ j,(hj:j<l.length)→j<i→Kk name l[j]=false)(h2:Kk name l[i]=true):l.find? (Kk name)=some l[i]:=by
 rw [Lo];exact ⟨h2,i,hi,rfl,fun j hj=>by rw [h1 j O hj];rfl⟩
theorem eK{name:List UInt8}{l:List Nd}(h1:∀ j,(hj:j<l.length)→Kk name l[j]=false):l.find? (Kk name)=none:=by
 rw [Kp];intro x hx;obtain ⟨j,hj,rfl⟩:=Gq hx;rw [h1 j hj];simp
def cN(r:List JI×Bool)(v:Aj)(w:Ae):Prop:=∃ l,v = .tuple #[l,.bool r.2]∧Ly KY w r.1 l
theorem dK{w:Ae}{base:Nat}{s:Aj}{l:List JI}(h:w.ownsRow base 134 3 s l.length (l.flatMap KY)):Ly KY w l s:=nN h rfl
theorem aQ{t:Nd}(h:t.j.length=1):∃ h0:0<t.j.length,Oe t=t.j[0]:=⟨O,by simp [Oe,CC,A2 (show 0<t.j.length by omega)]⟩
theorem bD{l:List Nd}{k:Nat}(hk:k<l.length){r:List JI}{b:JI}(h:HV G5 (l.take k)=some r)(hb:G5 l[k]=some b):HV G5 (l.take (k+1))=some (r++[b]):=by
 rw [SM hk,gQ,h,hb]
theorem Zu{w:Ae}{base:Nat}{l:List JI}(f:JI){a:Option Addr}{c:Nat}(h:w.ownsRow base 134 3 (.slice a (l.length+1) c) (l.length+1) (l.flatMap KY++KY f)):w.ownsRow base 134 3 (.slice a (l++[f]).length c) (l++[f]).length ((l++[f]).flatMap KY):=by
 rw [LN,DQ,Ez,List.flatMap_nil,Ha];exact h
theorem xR(t:Nd)(name:List UInt8)(v:Aj)(D:Nat→Prop)(w:Ae)(hL:Laid w)(b1:10≤w.heap.size)(bg:NW w)(hk:Bv w D t.j v)(hc:count t≤1000000):Bz An 158 #[Cd t v,Cg name] w fun r w'=>cN (F8 t name) r w'∧G w w':=by
 obtain ⟨p,c,rfl,bs,bn⟩:=hk;have g:=G.refl w;have bq:=ED t;refine Cu 65 [0,1] Tryz.func158 ?_;refine CT fun _ w2 _ _ g E=>?_;refine Ad ?_;refine Hi (fun (i:Nat) u1=>(i≤t.j.length∧∀ j,(hj:j<t.j.length)→j<i→Kk name t.j[j]=false)∧G w2 u1) [(1,True,_),(14,True,_),(15,True,_)] (fun (i:Nat)=>[(16,True,.int .i64 i)]) (fun (i:Nat)=>t.j.length-i) (0) ⟨⟨CW _,fun j _ hj=>absurd hj (Iz j)⟩,G.refl _⟩ Bp ?_;rintro i u1 ⟨am,aa⟩;have g:=g.trans aa;replace E:=E.A aa;refine Am (Au (GG J J (Ai (Al (Am (Cv J (fun h1=>?_) (fun h1=>?_)))))));have h1:i<t.j.length:=by simp only [BM] at h1;omega
 obtain ⟨b,o,rfl,hD,xs,hR,hX⟩:=bn O;obtain ⟨p',c',hcell,ax⟩:=JD hR hX h1;have b0:=KG h1;have b7:=ED t.j[i];refine CJ (Al (Am (DF (Am (Au (Hn AC J J O (Ct A3 J J (hcell.A g) (A5 fun _ _ ga _ g E=>?_))))))));have a7:=ga.ge aa;have aa:=aa.trans (ga.g);refine AS fun az ga _ g E=>?_;first|replace aa:=BJ aa ga O|clear aa|skip
 refine Aw (fun h2=>?_) fun h2=>?_;have h2:(!Ac (t.j[i].k=2) || !Ac (t.j[i].o=name))=true:=h2;refine Ad ?_;refine Ci [16,1,14,15] ?_;refine Ai (fun a ha=>?_)
 exact ⟨i+1,ha,⟨⟨h1,fun j bb hj=>by
  by_cases e:j=i;subst e;unfold Kk;rw [h2];rfl;exact am.2 j bb O⟩,aa⟩,O⟩
 have h2:(!Ac (t.j[i].k=2) || !Ac (t.j[i].o=name))=false:=h2;have hf:=bB h1 am.2 (by unfold Kk;rw [h2];rfl)
 have hN:F8 t name=match HV G5 t.j[i].j with
  | none=>([],false)
  | some l=>(l,true):=by unfold F8;rw [hf]
 obtain ⟨p2,c2,hpe,bo,au⟩:=ax;injection hpe with hpe _ bm;subst hpe bm;have Ga:=E.U.lt;have bw:=E.J.lt;refine Ad ?_;refine Hi (fun (x:Nat×Option Addr×Nat×List JI) u2=>match x with|⟨k,a,ca,l⟩=>(k≤t.j[i].j.length∧HV G5 (t.j[i].j.take k)=some l∧u2.ownsRow az.heap.size 134 3 (.slice a l.length ca) l.length (l.flatMap KY))∧G az u2) [(1,True,_),(14,True,_),(15,True,_),(16,True,_),(30,True,_),(31,True,_)] (fun (x:Nat×Option Addr×Nat×List JI)=>match x with|⟨k,a,ca,l⟩=>[(8,True,.slice a l.length ca),(32,True,.int .i64 k)]) (fun (x:Nat×Option Addr×Nat×List JI)=>match x with|⟨k,a,ca,l⟩=>t.j[i].j.length-k) ((0,none,0,[])) ⟨⟨CW _,rfl,J5 _ _ _ _⟩,G.refl _⟩ Bp ?_;rintro ⟨k,a,ca,l⟩ u2 ⟨a9,ab⟩;have g:=g.trans ab;have aa:=aa.trans ab;replace E:=E.A ab;obtain ⟨hk,hm,hO⟩:=a9;have bk:=Sc G5 _ _ hm;rw [GZ] at bk;refine Am (Au (GG J J (Ai (Al (Am (Cv J (fun h3=>?_) (fun h3=>?_)))))));have h3:k<t.j[i].j.length:=by simp only [BM] at h3;omega
 obtain ⟨b2,o2,rfl,b3,bv,bi,a8⟩:=au O;obtain ⟨p3,c3,aj,an⟩:=JD bi a8 h3;have br:=KG h3;refine CJ (Al (Am (DF (Am (Au (Hn AC J J O (Ct A3 J J (aj.A g) (?_))))))));have al:=fun k hk=>(hO.lt k hk).2;refine A5 fun bp _ ad _ g E=>?_;have a6:=ad.ge aa;have aq:=ad.ge ab;have aa:=aa.trans (ad.g);have ab:=ab.trans (ad.g);have hO:=Ef hO (ad.g);have a1:(Fs a l.length ca).ownBlock≠some bp:=fun h=>by have:=al _ h;have:=ad.y;omega
 refine AS fun _ ga _ g E=>?_;first|replace aa:=BJ aa ga O|clear aa|skip
 first|replace ab:=BJ ab ga O|clear ab|skip
 have hO:=Dg hO ga (.inr a1);refine Aw (fun h4=>?_) fun h4=>?_;have h4:(!Ac (t.j[i].j[k].k=3) || !Ac ((t.j[i].j[k].j.length:Int)=1))=true:=h4;have af:=RI G5 _ _ (E8 h3) (by unfold G5;rw [h4];rfl);refine Am (Au (Bj J (Bj J (Ai (Al (Dl (Ql (ts:=[4,5]) (vs:=[_,_]) J J J ?_)))))));rw [hN,af];exact ⟨⟨_,rfl,PQ _⟩,g⟩;have h4:(!Ac (t.j[i].j[k].k=3) || !Ac ((t.j[i].j[k].j.length:Int)=1))=false:=h4
 have ba:t.j[i].j[k].j.length=1:=by
  simp only [EY,Bool.not_eq_false',BM] at h4;omega
 obtain ⟨a2,ek⟩:=aQ ba;obtain ⟨p4,c4,ae,_,aw⟩:=an;injection ae with ae _ ar;subst ae ar;obtain ⟨b4,o4,rfl,bz,b8,bh,bc⟩:=aw O;obtain ⟨p5,c5,ai,_⟩:=JD bh bc a2;have bt:=ED t.j[i].j[k].j[0];have bu:=KG a2;refine CJ (Al (Am (Au (AE AY J (AM Bh J (E.J.y J) (AR J (fun _=>KQ AC (Ab J) Bd (fun _=>by show (0:Int)≤0∧(0:Int)<((t.j[i].j[k].j.length:Nat):Int);omega)) (Ct A3 J J (ai.A g) (F0 J (BF ZW BX (Cn J CI) J) (iS _ _ _ _ (hL.A g) Dn (bg.A g) O) (fun b9 ag=>?_)))))))));have g:=g.trans ag;have aa:=aa.trans (ag);have ab:=ab.trans (ag);replace E:=E.A ag;have hO:=Ef hO (ag);refine Ad ?_;have ao:=fun k hk=>(hO.lt k hk).2;refine A5 fun bj _ ac _ g E=>?_;have a3:=ac.ge aa;have a5:=ac.ge ab;have aa:=aa.trans (ac.g);have ab:=ab.trans (ac.g);have hO:=Ef hO (ac.g);have av:(Fs a l.length ca).ownBlock≠some bj:=fun h=>by have:=ao _ h;have:=ac.y;omega
 refine AS fun _ ga _ g E=>?_;first|replace aa:=BJ aa ga O|clear aa|skip
 first|replace ab:=BJ ab ga O|clear ab|skip
 have hO:=Dg hO ga (.inr av);refine Aw (fun h5=>?_) fun h5=>?_;have h5:(!(Bx t.j[i].j[k].j[0]).2)=true:=h5;have af:=RI G5 _ _ (E8 h3) (by unfold G5;rw [h4,ek];simp only [Bool.not_eq_true'] at h5;rw [h5];rfl);refine Am (Au (Bj J (Bj J (Ai (Al (Dl (Ql (ts:=[4,5]) (vs:=[_,_]) J J J ?_)))))));rw [hN,af];exact ⟨⟨_,rfl,PQ _⟩,g⟩;have h5:(!(Bx t.j[i].j[k].j[0]).2)=false:=h5;have ap:G5 t.j[i].j[k]=some ⟨t.j[i].j[k].o,(Bx t.j[i].j[k].j[0]).1⟩:=by unfold G5;rw [h4,ek];simp only [Bool.not_eq_false'] at h5;rw [h5];rfl
 refine CJ (Al (Au (Ap J (AE E2 J (AM DW J (E.U.y J) (Ct Cf J J E.J.row (Hg PK Ve (Bk J (Bk J CH)) J J (Ck fun _ _ ga _ g E=>?_))))))));have ay:=ga.ge aa;have a4:=ga.ge ab;have ab:=ab.trans (ga.g);have hO:=Ef hO (ga.g);refine Ja J QF PK J BT (Ab J) hO (Ab J) J E.J.row J (by simp only [maxLen];omega) O (by have:=ab.size;omega) ?_;intro a' c' b6 be ah b5;have ak:=fun k hk=>(hO.lt k hk).1;have g:=Nj g ah (fun k hk=>by have:=ak k hk;omega);replace ab:=Nj ab ah ak;replace E:=E.sel [false,false,false,true,true];replace E:=E.C ah (E0.2 ⟨((fun he=>by have:=ak _ he.symm;omega)),E0.2 ⟨((fun he=>by have:=ak _ he.symm;omega)),IH _⟩⟩);have bf:=Zu ⟨t.j[i].j[k].o,(Bx t.j[i].j[k].j[0]).1⟩ be;refine Ad ?_;refine Ci [8,32,1,14,15,16,30,31] ?_;refine Ai (fun a ha=>?_);refine ⟨(k+1,a',c',l++[⟨t.j[i].j[k].o,(Bx t.j[i].j[k].j[0]).1⟩]),?_,⟨⟨h3,bD h3 hm ap,bf⟩,ab⟩,by show t.j[i].j.length-(k+1)<t.j[i].j.length-k;omega⟩;simpa using ha;have h3:k=t.j[i].j.length:=by simp only [CB] at h3;omega
 subst h3;rw [FI] at hm;refine AN ?_;rw [hN,hm];exact ⟨⟨_,rfl,dK hO⟩,g⟩;have h1:i=t.j.length:=by simp only [CB] at h1;omega
 subst h1;refine AN ?_;have hN:F8 t name=([],false):=by unfold F8;rw [eK fun j hj=>am.2 j hj O]
 rw [hN];exact ⟨⟨_,rfl,PQ _⟩,g⟩
def Jn:List (List UInt8):=[[43],[45],[42],[47],[37]]
def JE:List (List UInt8):=[[60],[60,61],[62],[62,61]]
def Jo:List (List UInt8):=[[61,61],[33,61]]
def JA:List (List UInt8):=[[38,38],[124,124]]
def Gp(op:List UInt8)(a b:Bo):Bo×Bool :=
 bif Ep Jn op then bif BL a tInt&&BL b tInt then (tInt,true) else (Az,false)
 else bif Ep JE op then bif BL a tInt&&BL b tInt then (tBool,true) else (Az,false)
 else bif Ep Jo op then bif Nk a b then (tBool,true) else (Az,false)
 else bif Ep JA op then bif BL a tBool&&BL b tBool then (tBool,true) else (Az,false)
 else (Az,false)
theorem Vq(a b y:Bo)(p q:Nat)(w:Ae)(hp:Ax w p 24 (Ek a))(hq:Ax w q 24 (Ek b)):Bz An 159 #[D7 y,.pointer (some ⟨p,0,none⟩),.pointer (some ⟨q,0,none⟩)] w fun v w'=>v = .bool (BL a y&&BL b y)∧G w w':=by
 have g:=G.refl w;refine Cu 13 [0,1,2] Tryz.func159 ?_;refine Am (Au (CT fun _ _ _ _ g E=>?_));refine Bj J (Ai (Al (Am (Au (Ct Cf J J (by first|exact (hp.A g).row|exact (hq.A g).row|exact E.J.y J|exact E.J.row) (Ct Cf J J E.J.row (AR J (fun _=>I9 Iv (Ab J) (Ab J) J) (Ap J (BQ J J J (A8 Cf (Ab J) J (fun _=>by first|exact (hp.A g).row|exact (hq.A g).row|exact E.J.y J|exact E.J.row)) (BQ J J J (A8 Cf (Ab J) J (fun _=>E.J.row)) (Ay J J J (fun _=>I9 Iv (Ah J id) (Ah J id) J) (AR J (fun _=>Et (Ab J) (Ah J id)) (Bj J (Ai (Al (Dl (Fp J J ?_)))))))))))))))));exact ⟨rfl,g⟩
theorem Aga(op:List UInt8)(a b:Bo)(w:Ae)(hL:Laid w)(ag:10≤w.heap.size):Bz An 140 #[Cg op,D7 a,D7 b] w fun v w'=>v = .tuple #[D7 (Gp op a b).1,.bool (Gp op a b).2]∧G w w':=by
 have g:=G.refl w;refine Cu 49 [0,1,2] Tryz.func140 ?_;refine Am (Au (CT fun _ _ _ _ g E=>?_));refine Mt fun _ _ _ _ g E=>?_;refine A5 fun _ _ _ _ g E=>?_;refine Bj J (Ai (Al (Am (Au (Hg FF Ia (Bk J CH) J J (Hg FF Ia (Bk J CH) J J (A5 fun _ _ _ _ g E=>?_)))))));refine A5 fun _ _ _ _ g E=>?_;refine AS fun _ _ _ g E=>?_;refine AS fun _ _ _ g E=>?_;refine Ai (Al (Am (Au (AR J (fun _=>RG (CI) (Cn J (Cn J CI))) (Bj J (Ai (Al (Am (Am (Au (Ap J (Ai (Al (DF (Am (Am (Au (MD J J (?_)))))))))))))))))));refine Bj J (Ai (Al (?_)));refine' R3 [(4,_,_),(5,_,_),(6,_,_),(7,_,_),(8,_,_),(9,_,_),(10,_,_),(14,_,_)] Bp J (fun an=>?y1) (Al ?n1)
 case y1 =>
  refine Ad ?_;refine' A1 [4,5,6,7,8,9,10,14] (fun Ga=>?y2) A0
  case y2 =>
   refine Ad ?_;refine' A1 [4,5,6,7,8,9,10,14] (fun ag=>?y3) A0
   case y3 =>
    refine Ad ?_;refine' A1 [4,5,6,7,8,9,10,14] (fun au=>?y4) A0
    case y4 =>
     refine Ad ?_;refine Ci [15,4,5,6,7,8,9,10,14] ?_;exact Ai A0
 case n1 =>
  refine Aw (fun h5=>?_) fun h5=>?_;(try simp only [BH] at h5);refine Ad ?_;refine F0 J (BF VR (Ab J) (Cn J CI) J) (Vq a b tInt _ _ _ E.g4 E.g3) (DB fun ak aw g E=>?_);refine Aw (fun h6=>?_) fun h6=>?_;(try simp only [BH] at h6);refine ER ?_;unfold Gp;simp only [Ep,Jn,JE,Jo,JA,h5,h6,AL,AQ];rfl;refine ER ?_;unfold Gp;simp only [Ep,Jn,JE,Jo,JA,h5,h6,AL,AQ];rfl;refine Ad ?_;refine' A1 [4,5,6,7,8,9,10,14] (fun ao=>?y7) (Al ?n7)
  case y7 =>
   refine Ad ?_;refine' A1 [4,5,6,7,8,9,10,14] (fun aj=>?y8) A0
   case y8 =>
    refine Ad ?_;refine' A1 [4,5,6,7,8,9,10,14] (fun ar=>?y9) A0
    case y9 =>
     refine Ad ?_;refine Ci [25,4,5,6,7,8,9,10,14] ?_;exact Ai A0
  case n7 =>
   refine Aw (fun aa=>?_) fun aa=>?_;(try simp only [BH] at aa);refine Ad ?_;refine F0 J (BF VR (Ab J) (Cn J CI) J) (Vq a b tInt _ _ _ E.g4 E.g3) (DB fun am ap g E=>?_);refine Aw (fun af=>?_) fun af=>?_;(try simp only [BH] at af);refine ER ?_;unfold Gp;simp only [Ep,Jn,JE,Jo,JA,h5,aa,af,AL,AQ];rfl;refine ER ?_;unfold Gp;simp only [Ep,Jn,JE,Jo,JA,h5,aa,af,AL,AQ];rfl;refine Ad ?_;refine' A1 [4,5,6,7,9,10,14] (fun ah=>?y12) (Al ?n12)
   case y12 =>
    refine Ad ?_;refine Ci [34,4,5,6,7,9,10,14] ?_;exact Ai A0
   case n12 =>
    refine Aw (fun ab=>?_) fun ab=>?_;(try simp only [BH] at ab);refine Ad ?_;refine DI (Abt _ _ _ (hL.A g) Dn) (DB fun ax av g E=>?_);refine Aw (fun ae=>?_) fun ae=>?_;(try simp only [BH] at ae);refine ER ?_;unfold Gp;simp only [Ep,Jn,JE,Jo,JA,h5,aa,ab,ae,AL,AQ];rfl;refine ER ?_;unfold Gp;simp only [Ep,Jn,JE,Jo,JA,h5,aa,ab,ae,AL,AQ];rfl;refine Ad ?_;refine' A1 [6,7,9,10] (fun ai=>?y15) (Al ?n15)
    case y15 =>
     refine Ad ?_;refine Ci [41,6,7,9,10] ?_;exact Ai A0
    case n15 =>
     refine Aw (fun ac=>?_) fun ac=>?_;(try simp only [BH] at ac);refine Ad ?_;refine F0 J (BF VR (Ab J) (Cn J CI) J) (Vq a b tBool _ _ _ E.g4 E.g3) (DB fun al aq g E=>?_);refine Aw (fun ad=>?_) fun ad=>?_;(try simp only [BH] at ad);refine ER ?_;unfold Gp;simp only [Ep,Jn,JE,Jo,JA,h5,aa,ab,ac,ad,AL,AQ];rfl;refine ER ?_;unfold Gp;simp only [Ep,Jn,JE,Jo,JA,h5,aa,ab,ac,ad,AL,AQ];rfl;refine ER ?_;unfold Gp;simp only [Ep,Jn,JE,Jo,JA,h5,aa,ab,ac,AL,AQ];rfl
theorem qH(op:List UInt8)(a b:Bo)(w:Ae):Bz An 20 #[Cg op,D7 a,D7 b] w fun v w'=>v = .tuple #[D7 (Gp op a b).1,.bool (Gp op a b).2]∧G w w':=by
 have g:=G.refl w;refine Cu 62 [0,1,2] Tryz.func20 ?_;refine CT fun _ _ _ _ g E=>?_;refine Mt fun _ _ _ _ g E=>?_;refine A5 fun _ _ _ _ g E=>?_;refine A5 fun _ _ _ _ g E=>?_;refine A5 fun _ _ _ _ g E=>?_;refine AS fun _ _ _ g E=>?_;refine AS fun _ _ _ g E=>?_;refine Ad ?_;refine' A1 [4,5,6,7,8,9,12] (fun aj=>?y1) (Al ?n1)
 case y1 =>
  refine Ad ?_;refine' A1 [4,5,6,7,8,9,12] (fun Ga=>?y2) A0
  case y2 =>
   refine Ad ?_;refine' A1 [4,5,6,7,8,9,12] (fun ao=>?y3) A0
   case y3 =>
    refine Ad ?_;refine' A1 [4,5,6,7,8,9,12] (fun an=>?y4) A0
    case y4 =>
     refine Ad ?_;refine Ci [13,4,5,6,7,8,9,12] ?_;exact Ai A0
 case n1 =>
  refine Aw (fun h5=>?_) fun h5=>?_;(try simp only [BH] at h5);refine Aw (fun h6=>?_) fun h6=>?_;have h6:(BL a tInt&&BL b tInt)=true:=h6;refine ER ?_;unfold Gp;simp only [Ep,Jn,JE,Jo,JA,h5,h6,AL,AQ];rfl;have h6:(BL a tInt&&BL b tInt)=false:=h6;refine ER ?_;unfold Gp;simp only [Ep,Jn,JE,Jo,JA,h5,h6,AL,AQ];rfl;refine Ad ?_;refine' A1 [4,5,6,7,8,9,12] (fun ak=>?y7) (Al ?n7)
  case y7 =>
   refine Ad ?_;refine' A1 [4,5,6,7,8,9,12] (fun ai=>?y8) A0
   case y8 =>
    refine Ad ?_;refine' A1 [4,5,6,7,8,9,12] (fun am=>?y9) A0
    case y9 =>
     refine Ad ?_;refine Ci [28,4,5,6,7,8,9,12] ?_;exact Ai A0
  case n7 =>
   refine Aw (fun aa=>?_) fun aa=>?_;(try simp only [BH] at aa);refine Aw (fun ac=>?_) fun ac=>?_;have ac:(BL a tInt&&BL b tInt)=true:=ac;refine ER ?_;unfold Gp;simp only [Ep,Jn,JE,Jo,JA,h5,aa,ac,AL,AQ];rfl;have ac:(BL a tInt&&BL b tInt)=false:=ac;refine ER ?_;unfold Gp;simp only [Ep,Jn,JE,Jo,JA,h5,aa,ac,AL,AQ];rfl;refine Ad ?_;refine' A1 [4,5,6,7,9,12] (fun ag=>?y12) (Al ?n12)
   case y12 =>
    refine Ad ?_;refine Ci [42,4,5,6,7,9,12] ?_;exact Ai A0
   case n12 =>
    refine Aw (fun ad=>?_) fun ad=>?_;(try simp only [BH] at ad);refine Ad ?_;refine DI (xP _ _ _) (DB fun al ap g E=>?_);refine Aw (fun af=>?_) fun af=>?_;(try simp only [BH] at af);refine ER ?_;unfold Gp;simp only [Ep,Jn,JE,Jo,JA,h5,aa,ad,af,AL,AQ];rfl;refine ER ?_;unfold Gp;simp only [Ep,Jn,JE,Jo,JA,h5,aa,ad,af,AL,AQ];rfl;refine Ad ?_;refine' A1 [4,5,6,7,9] (fun ah=>?y15) (Al ?n15)
    case y15 =>
     refine Ad ?_;refine Ci [49,4,5,6,7,9] ?_;exact Ai A0
    case n15 =>
     refine Aw (fun ae=>?_) fun ae=>?_;(try simp only [BH] at ae);refine Aw (fun ab=>?_) fun ab=>?_;have ab:(BL a tBool&&BL b tBool)=true:=ab;refine ER ?_;unfold Gp;simp only [Ep,Jn,JE,Jo,JA,h5,aa,ad,ae,ab,AL,AQ];rfl;have ab:(BL a tBool&&BL b tBool)=false:=ab;refine ER ?_;unfold Gp;simp only [Ep,Jn,JE,Jo,JA,h5,aa,ad,ae,ab,AL,AQ];rfl;refine ER ?_;unfold Gp;simp only [Ep,Jn,JE,Jo,JA,h5,aa,ad,ae,AL,AQ];rfl
theorem SF(y:Bo):(Ek y).length=2:=rfl
def Hm(s:List UInt8):Bool:=Ac (s=[76,111,99,107]) || Ac (s=[85,110,108,111,99,107])
def Ds(y:Bo)(s:List UInt8):List Bo×Bo×Bool :=
 bif !KA y then ([],Az,false)
 else bif Ac (y.k=8) then ([],Az,Hm s)
 else bif Ac (y.k=9) then ([],Az,(Hm s || Ac (s=[82,76,111,99,107])) || Ac (s=[82,85,110,108,111,99,107]))
 else bif Ac (y.k=10) then (bif Ac (s=[65,100,100]) then ([tInt],Az,true) else ([],Az,Ac (s=[68,111,110,101]) || Ac (s=[87,97,105,116])))
 else bif Ac (y.k=11) then (bif Ac (s=[68,111]) then ([tFunc],Az,true) else ([],Az,false))
 else bif Ac (y.k=12) then (bif Ac (s=[76,111,97,100]) then ([],tInt,true) else bif Ac (s=[83,116,111,114,101]) then ([tInt],Az,true) else bif Ac (s=[65,100,100]) then ([tInt],tInt,true) else bif Ac (s=[67,111,109,112,97,114,101,65,110,100,83,119,97,112]) then ([tInt,tInt],tBool,true) else ([],Az,false))
 else ([],Az,false)
def Mz(P:AJ)(q:Int→Bool)(v:Aj)(w:Ae):Prop:=∃ f fs cs,v = .func (.func f) fs cs∧CD P f=true∧∀ (k:Int) (w':Ae),G w w'→Bz P f (fs ++ #[.int .i64 k]++cs) w' fun r w''=>r = .bool (q k)∧G w' w''
theorem Mz.A{P:AJ}{q:Int→Bool}{v:Aj}{w w':Ae}(h:Mz P q v w)(g:G w w'):Mz P q v w':=by
 obtain ⟨f,fs,cs,rfl,h1,h2⟩:=h;exact ⟨f,fs,cs,rfl,h1,fun k aa g'=>h2 k aa (g.trans g')⟩
theorem Lg{P:AJ}{q:Int→Bool}{f:Nat}(aa:CD P f=true)(h:∀ (k:Int) (w:Ae),Bz P f #[.int .i64 k] w fun r w'=>r = .bool (q k)∧G w w')(w:Ae):Mz P q (.func (.func f) #[] #[]) w :=
 ⟨f,#[],#[],rfl,aa,fun k w' _=>by simpa using h k w'⟩
section
variable {P:AJ} {Z:List Bf→Act→Ae→Prop} {ops:List Oper} {cl:List Nat} {lv:List Bool} {W0:Ae} {n:Nat} {K:Act→Ae→Prop} {k:Nat} {rest:List Oper} {σ:List Ce} {w:Ae} {d:Nat} {ty:AD} {pos:String} {after:Array Edge}
theorem Afg{g t:Nat}{want b:Bool}{c0:Prop}{op:Op}{v:Aj}{w':Ae}(hb:(!Ao (Bw cl k) 0 && !Ao (Bw cl k) 3&&CR d n)=true)
 (ab:((ops.toArray[g]?).bind (·.dst))=some t) (aa:Ex σ t=some (c0,.bool b)) (hr:X0 P n σ (c0∧b=want) w op ty v w') (hg:G w w')
 (h:(c0∧b=want)→BK P Z ops cl lv W0 n K (k+1) rest ((d,c0∧b=want,v) :: σ) w') (h':¬ (c0∧b=want)→BK P Z ops cl lv W0 n K (k+1) rest ((d,c0∧b=want,v) :: σ) w) :
 BK P Z ops cl lv W0 n K k (⟨some d,op,ty,pos,after,some (g,want)⟩::rest) σ w:=.mk fun hl a ha=>by
 obtain ⟨h0,h1⟩:=Mh hl;simp only [Du,Bool.not_eq_true'] at hb;rw [D4,List.range'_succ];have hw:=OL (op:=op) (ty:=ty) (pos:=pos) (after:=after) (want:=want) (d:=some d) ab aa ha;refine ⟨_,h0,?_⟩;rw [CN (fun he=>by rcases he with he|he <;> rw [he] at hb <;> simp at hb)]
 by_cases hh:c0∧b=want;rw [CO (hw.2 hh)];exact .inl ⟨v,w',hr _ _ _ _ a ha hh,fun _=>hg,h hh h1 _ (ha.put hb.2 (fun _=>rfl) (fun hn=>absurd hh hn))⟩;rw [CN (fun hq=>hh (hw.1 hq))];exact h' hh h1 _ (ha.put hb.2 (fun hq=>absurd hq hh) (fun _=>rfl))
theorem cX{g t0:Nat}{want bb:Bool}{c0:Prop}{t e z ac m:Nat}{ps:Array (Nat×Bl)}{vs:List (Nat×Aj)}{zv:Aj}(l:List Aj)(hb:(!Ao (Bw cl k) 0 && !Ao (Bw cl k) 3&&CR d n)=true)(ai:((ops.toArray[g]?).bind (·.dst))=some t0)(ag:Ex σ t0=some (c0,.bool bb))
 (ht:Gf P t=some (e,z,ac)) (hz:Gh P e=some zv)
 (hx:Mg n σ (c0∧bb=want) ps vs) (hm:(Nat.ble (m*z) 16777216 && !Ao (m*z) 0&&Ao vs.length m)=true) (hf:Oq z 0 vs=some l)
 (h:∀ b w1,G w w1→(c0∧bb=want→Ax w1 b e l)→BK P Z ops cl lv W0 n K (k+1) rest ((d,c0∧bb=want,.slice (some ⟨b,0,none⟩) m m) :: σ) w1) :
 BK P Z ops cl lv W0 n K k (⟨some d,.buildSlice t m ps,ty,pos,after,some (g,want)⟩::rest) σ w:=by
 obtain ⟨hu,i,hi,ae,_⟩:=Ms ht;obtain ⟨i',ad,ak⟩:=PC hz;obtain rfl:i=i':=EM (hi.symm.trans ad);simp only [Du,Bool.not_eq_true'] at hm;have af:¬ (m*z>2 ^ 24):=by have:=Nat.le_of_ble_eq_true hm.1.1;omega
 have ah:¬ (m*z=0):=by intro he;rw [he] at hm;simp at hm
 have ab:=KJ hm.2
 have aa:Instr.fill (fun i=>some (i*z,z)) ((Array.range (m*z)).map (zv.cells[· % zv.cells.size]!)) vs=some l.toArray:=by
  have h1:=UR z vs 0 [] ((Array.range (m*z)).map (zv.cells[· % zv.cells.size]!)).toList l hf BR (by simp [ab]) BR;have:=TR _ _ _ _ h1;rwa [Array.toArray_toList] at this
 refine Afg hb ai ag (w':=w.alloc (.cells l.toArray e)) (v:=.slice (some ⟨w.heap.size,0,none⟩) m m) (fun d pos after g a ha hc=>?_) (MO w e l).g (fun hc=>h _ _ (MO w e l).g (fun _=>(MO w e l).H)) (fun hc=>h _ _ (G.refl w) (fun hq=>absurd hq hc));have aj:=hx a ha hc;simp only [execOp,Instr.buildSlice,Sem.run_bind,run_underlying hu,CY,sizeOf,typeInfo,run_program,hi,Sem.run_pure,ae,CN af,CN ah,zeroValue,ak];rw [aj,aa];simp [newRow]
end
section
variable {P:AJ} {n:Nat} {σ:List Ce} {c:Prop} {wb:Ae} {ty:AD} {v:Aj}
theorem wF{t e z aa:Nat}{x y:Bl}{o:Option Addr}{m q:Nat}{k:IntKind}(ht:Gf P t=some (e,z,aa))(h:BI n σ c x (.slice o m q))(h':BI n σ c y (.int k 0)) :
 Db P n σ c wb (.slice t x (some y) none none) ty (.slice o m q):=.mk fun d pos after gd a ha hc w1 _=>by
 obtain ⟨hu,ac,ab,hz,_⟩:=Ms ht;have e2:o.map (fun b=>Addr.add b 0)=o:=by cases o <;> simp [Addr.add]
 simp only [execOp,h a ha hc,h' a ha hc,Instr.sliceAt,Option.map_some,Option.map_none,Sem.run_bind,run_underlying hu,CY];simp [Instr.slice,run_underlying hu,Instr.sliceBounds,Instr.sliceBound,asIntOf,Rg ab,e2]
end
def IE(k:Int):Bool:=Cs [7,8] k
def E7(k:Int):Bool:=Cs [28,29,30,31,32,33,35,36,37,27,34,24,25,26,38] k
def L5(k:Int):Bool:=Cs [6,10,11,12,13,14,15,16,17,21,18,19,20,22] k
def CV(l:List Int)(k:Int):Bool:=Ac (k∈l)
theorem tJ(s:List UInt8)(w:Ae)(hL:Laid w)(aa:10≤w.heap.size):Bz An 100 #[Cg s] w fun v w'=>v = .bool (FK s)∧G w w':=by
 have g:=G.refl w;refine Cu 34 [0] Tryz.func100 ?_;refine Ad ?_;refine AO (YF s _ (hL.A g) Dn) ?_;rintro v8 w8 ⟨l,rfl,hT,g8⟩;obtain ⟨a,c,rfl,hr⟩:=fG hT;refine Ev g8 fun g=>?_;refine Ad ?_;refine Ay J J J (fun _=>CS MG (Ah J id) Bd (fun hc=>by have:=AH (AA.1 hc.2).2;omega) (fun hc=>(hr (by have:=AH (AA.1 hc.2).2;omega)).1)) ?_;refine Ad ?_;refine BQ J J J (AZ Cb (Ah J id) (fun hc=>(hr (by have:=AH (AA.1 hc.2).2;omega)).2 0 _ J)) ?_;refine Ad ?_;refine Ay J J J (fun _=>CS MG (Ah J id) Bd (fun hc=>by have:=AH (AA.1 (AA.1 hc.2).1).2;omega) (fun hc=>(hr (by have:=AH (AA.1 (AA.1 hc.2).1).2;omega)).1)) ?_;refine Ad ?_;refine BQ J J J (AZ DW (Ah J id) (fun hc=>(hr (by have:=AH (AA.1 (AA.1 hc.2).1).2;omega)).2 1 _ J)) ?_;refine Cy ?_;rw [← gG];rfl
theorem RB(k:Int)(w:Ae):Bz An 104 #[.int .i64 k] w fun v w'=>v = .bool (IE k)∧G w w':=by
 have g:=G.refl w;refine Cu 9 [0] Tryz.func104 ?_;refine AN ?_;exact ⟨rfl,g⟩
theorem NZ(k:Int)(w:Ae):Bz An 106 #[.int .i64 k] w fun v w'=>v = .bool (E7 k)∧G w w':=by
 have g:=G.refl w;refine Cu 20 [0] Tryz.func106 ?_;refine Ad ?_;refine' A1 [2] (fun ah=>?y1) (Al ?n1)
 case y1 =>
  refine Ad ?_;refine' A1 [2] (fun Ga=>?y2) A0
  case y2 =>
   refine Ad ?_;refine' A1 [2] (fun an=>?y3) A0
   case y3 =>
    refine Ad ?_;refine' A1 [2] (fun am=>?y4) A0
    case y4 =>
     refine Ad ?_;refine' A1 [2] (fun ai=>?y5) A0
     case y5 =>
      refine Ad ?_;refine' A1 [2] (fun ak=>?y6) A0
      case y6 =>
       refine Ad ?_;refine' A1 [2] (fun aj=>?y7) A0
       case y7 =>
        refine Ad ?_;refine' A1 [2] (fun ag=>?y8) A0
        case y8 =>
         refine Ad ?_;refine' A1 [2] (fun al=>?y9) A0
         case y9 =>
          refine Ad ?_;refine' A1 [2] (fun ae=>?y10) A0
          case y10 =>
           refine Ad ?_;refine' A1 [2] (fun ad=>?y11) A0
           case y11 =>
            refine Ad ?_;refine' A1 [2] (fun ab=>?y12) A0
            case y12 =>
             refine Ad ?_;refine' A1 [2] (fun af=>?y13) A0
             case y13 =>
              refine Ad ?_;refine' A1 [2] (fun ac=>?y14) A0
              case y14 =>
               refine Ad ?_;refine Ci [4,2] ?_;exact Ai A0
 case n1 =>
  refine Aw (fun aa=>?_) fun aa=>?_;(try simp only [BH] at aa);refine Cy ?_;simp only [E7,Cs];exact (aa).symm;refine Cy ?_;simp only [E7,Cs];exact (aa).symm
theorem Abc(k:Int)(w:Ae):Bz An 107 #[.int .i64 k] w fun v w'=>v = .bool (L5 k)∧G w w':=by
 have g:=G.refl w;refine Cu 19 [0] Tryz.func107 ?_;refine Ad ?_;refine' A1 [2] (fun ai=>?y1) (Al ?n1)
 case y1 =>
  refine Ad ?_;refine' A1 [2] (fun Ga=>?y2) A0
  case y2 =>
   refine Ad ?_;refine' A1 [2] (fun ah=>?y3) A0
   case y3 =>
    refine Ad ?_;refine' A1 [2] (fun ag=>?y4) A0
    case y4 =>
     refine Ad ?_;refine' A1 [2] (fun aj=>?y5) A0
     case y5 =>
      refine Ad ?_;refine' A1 [2] (fun al=>?y6) A0
      case y6 =>
       refine Ad ?_;refine' A1 [2] (fun ak=>?y7) A0
       case y7 =>
        refine Ad ?_;refine' A1 [2] (fun af=>?y8) A0
        case y8 =>
         refine Ad ?_;refine' A1 [2] (fun am=>?y9) A0
         case y9 =>
          refine Ad ?_;refine' A1 [2] (fun ac=>?y10) A0
          case y10 =>
           refine Ad ?_;refine' A1 [2] (fun ab=>?y11) A0
           case y11 =>
            refine Ad ?_;refine' A1 [2] (fun ad=>?y12) A0
            case y12 =>
             refine Ad ?_;refine' A1 [2] (fun ae=>?y13) A0
             case y13 =>
              refine Ad ?_;refine Ci [4,2] ?_;exact Ai A0
 case n1 =>
  refine Aw (fun aa=>?_) fun aa=>?_;(try simp only [BH] at aa);refine Cy ?_;simp only [L5,Cs];exact (aa).symm;refine Cy ?_;simp only [L5,Cs];exact (aa).symm
theorem sM(l:List Int)(b:Nat)(p:Option Addr)(c:Nat)(k:Int)(w:Ae)(hB:Ax w b 56 [.slice p l.length c])(hp:0<l.length→∃ b o,p=some ⟨b,o,none⟩∧CQ w b o (l.map (Value.int .i64)))(hl:l.length≤1000) :
 Bz An 133 #[.int .i64 k,.pointer (some ⟨b,0,none⟩)] w fun v w'=>v = .bool (CV l k)∧G w w':=by
 have g:=G.refl w;refine Cu 16 [0,1] Tryz.func133 ?_;refine Ad ?_;refine Hi (fun (i:Nat) u1=>(i≤l.length∧∀ j,(h:j<l.length)→j<i→l[j]≠k)∧G w u1) [(0,True,_),(6,True,_),(7,True,_)] (fun (i:Nat)=>[(8,True,.int .i64 i)]) (fun (i:Nat)=>l.length-i) (0) ⟨⟨CW _,fun j _ hj=>absurd hj (Iz j)⟩,G.refl _⟩ Bp ?_;rintro i u1 ⟨ab,aa⟩;have g:=g.trans aa;refine Am (Au (GG J J (Ai (Al (Am (Cv J (fun h1=>?_) (fun h1=>?_)))))));have h1:i<l.length:=by simp only [BM] at h1;omega
 obtain ⟨b2,o2,rfl,hR⟩:=hp O;have hv:(l.map (Value.int .i64))[i*1]? = some (.int .i64 l[i]):=by simp [h1]
 refine CJ (Al (Am (DF (Am (Au (Hn Jm J J O (AM Cb J ((hR.A g) _ _ hv) (Bj J (Ai (Al (Am (Au (Ap J (Ap J (Fy J J (Ai (Al (Cv J (fun h2=>?_) (fun h2=>?_)))))))))))))))))));simp only [BM] at h2;refine Cy ?_;rw [CV,eq_comm,BM,← h2];exact E8 h1;simp only [CB] at h2;refine Ad ?_;refine Ci [8,0,6,7] ?_;refine Ai (fun a ha=>?_);refine ⟨i+1,ha,⟨⟨h1,fun j h hj=>?_⟩,aa⟩,O⟩;by_cases e:j=i;subst e;exact h2;exact ab.2 j h O;refine Cy ?_;rw [CV,eq_comm,CB];intro hm;obtain ⟨j,hj,e⟩:=Gq hm;simp only [CB] at h1;exact ab.2 j hj O e
theorem Mi(l:List Int)(b o c:Nat)(w:Ae)(hR:CQ w b o (l.map (Value.int .i64)))(hl:l.length≤1000):Bz An 101 #[.slice (some ⟨b,o,none⟩) l.length c] w fun v w'=>Mz An (CV l) v w'∧G w w':=by
 have g:=G.refl w;refine Cu 4 [0] Tryz.func101 ?_;refine Am (Au (CT fun _ _ _ _ g E=>?_));refine Bj J (Ai (Al (Am (Au (AR J (fun _=>RG (CI) (Cn J CI)) (Bj J (Ai (Al (Dl (Fp J J ?_))))))))));refine ⟨⟨_,_,_,rfl,tH,fun k w' g'=>?_⟩,g⟩;exact sM l _ _ _ k w' (E.J.A g') (fun _=>⟨b,o,rfl,(hR.A g).A g'⟩) hl
theorem Adb(q r:Int→Bool)(f h:Aj)(b1 b2:Nat)(k:Int)(w:Ae)(h1:Ax w b1 103 [f])(h2:Ax w b2 103 [h])(hF:Mz An q f w)(hH:Mz An r h w) :
 Bz An 134 #[.int .i64 k,.pointer (some ⟨b1,0,none⟩),.pointer (some ⟨b2,0,none⟩)] w fun v w'=>v = .bool (q k || r k)∧G w w':=by
 have g:=G.refl w;obtain ⟨f0,ah,aj,rfl,ab,ac⟩:=hF;obtain ⟨f1,ai,ag,rfl,aa,ad⟩:=hH;refine JB (m:=13) Tryz.func134 J J [(0,True,_),(1,True,_),(2,True,_)] Bp ?_;refine Am (Au (Bj J (Ai (Al (Am (Au (AM UQ J ((h1.A g).y J) (Ap J (F0 J (BF ab (Ab J) (Cn J CI) J) (ac k _ g) (fun w7 g7=>?_))))))))));have g:=g.trans g7;refine Ap J (BQ J J J (AZ UQ (Ab J) (fun _=>(h2.A g).y J)) (Ay J J J (Bm J) (Ff J J J (fun _=>(BF aa (Ah J id) (CM (Ah J id) (DC)) J)) (fun hc=>ad k _ g) (fun af ae=>?_))));have g:=g.trans ae;refine AN ?_;exact ⟨rfl,g⟩
theorem SG(q:Int→Bool)(l:List Int)(f:Aj)(b o c:Nat)(w:Ae)(hF:Mz An q f w)(hR:CQ w b o (l.map (Value.int .i64)))(hl:l.length≤1000):Bz An 105 #[f,.slice (some ⟨b,o,none⟩) l.length c] w fun v w'=>Mz An (fun k=>q k || CV l k) v w'∧G w w':=by
 have g:=G.refl w;have ab:=hF;obtain ⟨f0,ah,ak,rfl,ae,af⟩:=hF;refine Cu 9 [0,1] Tryz.func105 ?_;refine CT fun _ _ _ _ g E=>?_;refine Bj J (Ai (Al (Am (Au (Ap J (AO (Mi l _ _ _ _ (hR.A g) hl) ?_))))));rintro v7 w7 ⟨hA,g7⟩;refine Ev g7 fun g=>?_;have aa:=hA;obtain ⟨f1,aj,ag,rfl,ad,ai⟩:=hA;replace E:=E.A g7;have gm:=G.refl w7;refine A5 fun _ _ ga _ g E=>?_;have ac:=ga.ge gm;have gm:=gm.trans (ga.g);refine AS fun _ ga _ g E=>?_;first|replace gm:=BJ gm ga O|clear gm|skip
 refine Ai (Al (Am (Au (AR J (fun _=>RG (CI) (Cn J (Cn J CI))) (Bj J (Ai (Al (Dl (Fp J J ?_)))))))));refine ⟨⟨_,_,_,rfl,zQ,fun k w' g'=>?_⟩,g⟩;exact Adb q (CV l) _ _ _ _ k w' (E.U.A g') (E.J.A g') ((ab.A g).A g') ((aa.A gm).A g')
end Go.Rk
