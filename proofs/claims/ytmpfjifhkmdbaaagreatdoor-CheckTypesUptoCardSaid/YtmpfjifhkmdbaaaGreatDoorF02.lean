/- Merged texts. Conditions: each text's own. -/
import Derived.Test.YtmpfjifhkmdbaaaGreatDoorF01
import Derived.Shelf.LaysC
import Derived.Shelf.Strconv.ParseIntPublic10
import Derived.KernelRfl
set_option linter.unusedSimpArgs false
set_option linter.unusedVariables false
set_option maxHeartbeats 16000000
set_option maxRecDepth 100000
open Bool renaming and_eq_true_iff→Aba,not_true→Afa,not_false→Aga,or_false→Aja,and_eq_true→Aka,or_eq_false_iff→Ara,true_and→Ata,or_eq_true→Aza,and_eq_false_iff→Bha
open Go renaming World→Aa,TypeId→Ba,PanicEntry→Da,Operand→Ea,Program→Fa,Value→Ga
open Go.Result renaming andThen_ok→Ha
open Go.Value renaming slice→Ia
open List renaming getElem?_eq_getElem→Aca,getD_eq_getElem?_getD→Aea,length_append→Ala,length_cons→Ama,all_eq_true→Ana,any_cons→Aoa,any_nil→Apa,flatMap_cons→Aqa,getElem_mem→Asa,getElem_of_mem→Aua,mem_cons_self→Awa,length_drop→Axa,forall_mem_cons→Aya,take_length→Baa,mem_range→Bba,length_take→Bca,append_nil→Bda,sum_append→Bea,take_add_one→Bfa,all_eq_false→Bga,drop_of_length_le→Bja,drop_eq_getElem_cons→Bka,mem_cons_of_mem→Bla,take_succ_cons→Bma,find?_eq_some_iff_getElem→Bna,find?_eq_none→Boa,length_eq_zero_iff→Bqa,mem_drop_iff_getElem→Bra,take_of_length_le→Bsa,length_flatMap→Bta,map_congr_left→Bua,flatMap_append→Bva,forall_mem_nil→Bwa
open Nat renaming beq→Aaa,le_refl→Ada,zero_le→Aha,blt→Aia,not_lt_zero→Ava,add_comm→Bia,eq_of_beq_eq_true→Bpa
namespace Go.Proofs
end Go.Proofs
namespace Go.Rk
open Go.Proofs
open Go Go.RowKit
 class FOF (s j:Nat) (o:outParam Nat):Prop where h:Yu PP s j=some o
 class TY1 (t:Nat):Prop where h:Uo PP t=true
 class TYA (t:Nat) (z:outParam Nat):Prop where h:Xna PP t=some z
 class TSZ (t:Nat) (z:outParam Nat):Prop where h:tySize PP t=some z
 class TZE (t:Nat) (z:outParam Ga):Prop where h:zeroOf PP t=some z
 class TST (t:Nat):Prop where h:Qub PP t=true
 class TFL (t:Nat) (z:outParam (List Nat)):Prop where h:Zsc PP t=some z
 class TUB (t:Nat):Prop where h:PP.underlying t=some .bool
 class TPL (t:Nat) (z:outParam (List (Nat×Nat))):Prop where h:Wy PP t=some z
 class TYE (t:Nat) (e z b:outParam Nat):Prop where h:tyElem PP t=some (e,z,b)
instance:FOF 24 0 0:=⟨Ulb⟩
instance:FOF 24 1 1:=⟨Umb⟩
instance:FOF 26 0 0:=⟨Wh⟩
instance:FOF 26 1 1:=⟨Wx⟩
instance:FOF 26 2 2:=⟨Qr⟩
instance:FOF 26 3 3:=⟨We⟩
instance:FOF 26 4 4:=⟨Zf⟩
instance:FOF 26 5 5:=⟨Yh⟩
instance:FOF 26 6 7:=⟨Yga⟩
instance:FOF 26 7 8:=⟨Zkb⟩
instance:FOF 48 0 0:=⟨Jea⟩
instance:FOF 48 1 1:=⟨Jfa⟩
instance:FOF 59 0 0:=⟨Jha⟩
instance:FOF 59 1 9:=⟨Zva⟩
instance:FOF 59 2 10:=⟨Wba⟩
instance:FOF 59 3 11:=⟨Jia⟩
instance:FOF 59 4 12:=⟨Jk⟩
instance:FOF 59 5 13:=⟨Xf⟩
instance:FOF 59 6 14:=⟨Zwa⟩
instance:FOF 59 7 15:=⟨Uz⟩
instance:FOF 61 0 0:=⟨Uxa⟩
instance:FOF 61 1 1:=⟨Zea⟩
instance:FOF 61 2 2:=⟨Zfa⟩
instance:FOF 67 0 0:=⟨Uka⟩
instance:FOF 67 1 9:=⟨Ula⟩
instance:FOF 67 2 10:=⟨Uma⟩
instance:FOF 67 3 11:=⟨Una⟩
instance:FOF 67 4 12:=⟨Uoa⟩
instance:FOF 67 5 13:=⟨Upa⟩
instance:FOF 67 6 15:=⟨Uqa⟩
instance:FOF 67 7 16:=⟨Ura⟩
instance:FOF 75 0 0:=⟨Ue⟩
instance:FOF 75 1 1:=⟨Qc⟩
instance:FOF 75 2 2:=⟨Yma⟩
instance:FOF 75 3 3:=⟨Qma⟩
instance:FOF 84 0 0:=⟨Uya⟩
instance:FOF 84 1 1:=⟨Uza⟩
instance:FOF 84 2 3:=⟨Qaa⟩
instance:FOF 84 3 4:=⟨Qba⟩
instance:FOF 94 0 0:=⟨Joa⟩
instance:FOF 94 1 1:=⟨Qh⟩
instance:FOF 94 2 2:=⟨Wbb⟩
instance:FOF 96 0 0:=⟨Vxa⟩
instance:FOF 96 1 1:=⟨Vya⟩
instance:FOF 96 2 3:=⟨Vza⟩
instance:FOF 96 3 4:=⟨Uaa⟩
instance:FOF 96 4 5:=⟨Uba⟩
instance:FOF 127 0 0:=⟨Vi⟩
instance:FOF 127 1 1:=⟨Yw⟩
instance:FOF 127 2 2:=⟨Ja⟩
instance:FOF 127 3 3:=⟨Wma⟩
instance:FOF 134 0 0:=⟨Wdb⟩
instance:FOF 134 1 1:=⟨Web⟩
instance:FOF 162 0 0:=⟨Xnb⟩
instance:FOF 162 1 1:=⟨Xob⟩
instance:FOF 162 2 2:=⟨Xpb⟩
instance:TY1 1:=⟨Ule⟩
instance:TY1 2:=⟨Xre⟩
instance:TY1 3:=⟨Yk⟩
instance:TY1 4:=⟨Upe⟩
instance:TY1 5:=⟨Xse⟩
instance:TY1 9:=⟨Xb⟩
instance:TY1 20:=⟨Qfc⟩
instance:TY1 22:=⟨Zi⟩
instance:TY1 30:=⟨Xqa⟩
instance:TY1 50:=⟨Vzb⟩
instance:TY1 51:=⟨Zda⟩
instance:TY1 52:=⟨Zma⟩
instance:TY1 53:=⟨Jga⟩
instance:TY1 54:=⟨Vm⟩
instance:TY1 55:=⟨Yt⟩
instance:TY1 56:=⟨Yyb⟩
instance:TY1 57:=⟨Ux⟩
instance:TY1 64:=⟨Vva⟩
instance:TY1 65:=⟨Wta⟩
instance:TY1 70:=⟨Vf⟩
instance:TY1 73:=⟨Usa⟩
instance:TY1 79:=⟨Yzb⟩
instance:TY1 82:=⟨Vy⟩
instance:TY1 102:=⟨Uab⟩
instance:TY1 103:=⟨Yna⟩
instance:TY1 109:=⟨Ubb⟩
instance:TY1 115:=⟨Wcb⟩
instance:TY1 120:=⟨Upd⟩
instance:TY1 123:=⟨Qkb⟩
instance:TY1 130:=⟨Yac⟩
instance:TY1 146:=⟨Xye⟩
instance:TY1 152:=⟨Jqb⟩
instance:TY1 156:=⟨Xab⟩
instance:TY1 160:=⟨Ztd⟩
instance:TY1 164:=⟨Wcd⟩
instance:TYA 24 2:=⟨Zl⟩
instance:TYA 26 9:=⟨Zj⟩
instance:TYA 48 2:=⟨Jhb⟩
instance:TYA 59 16:=⟨Jlb⟩
instance:TYA 61 4:=⟨Jja⟩
instance:TYA 67 17:=⟨Qja⟩
instance:TYA 75 4:=⟨Jna⟩
instance:TYA 84 5:=⟨Zxa⟩
instance:TYA 94 3:=⟨Wo⟩
instance:TYA 96 6:=⟨Uta⟩
instance:TYA 108 13:=⟨Unb⟩
instance:TYA 127 4:=⟨Zzc⟩
instance:TYA 134 3:=⟨Qgc⟩
instance:TYA 149 27:=⟨Uob⟩
instance:TYA 162 3:=⟨Wfb⟩
instance:TSZ 1 1:=⟨Wgf⟩
instance:TSZ 2 1:=⟨Ume⟩
instance:TSZ 3 1:=⟨Wz⟩
instance:TSZ 4 1:=⟨Zfe⟩
instance:TSZ 5 1:=⟨Uqe⟩
instance:TSZ 9 1:=⟨Xte⟩
instance:TSZ 20 1:=⟨Zkd⟩
instance:TSZ 22 1:=⟨Qf⟩
instance:TSZ 24 2:=⟨Wa⟩
instance:TSZ 26 9:=⟨Xa⟩
instance:TSZ 30 1:=⟨Qia⟩
instance:TSZ 48 2:=⟨Zwc⟩
instance:TSZ 50 1:=⟨Qcb⟩
instance:TSZ 51 1:=⟨Qeb⟩
instance:TSZ 52 1:=⟨Ywb⟩
instance:TSZ 53 1:=⟨Jjb⟩
instance:TSZ 54 1:=⟨Uga⟩
instance:TSZ 55 1:=⟨Uf⟩
instance:TSZ 56 1:=⟨Vkb⟩
instance:TSZ 57 1:=⟨Qu⟩
instance:TSZ 59 16:=⟨Zxc⟩
instance:TSZ 61 4:=⟨Yla⟩
instance:TSZ 64 1:=⟨Uia⟩
instance:TSZ 65 1:=⟨Vda⟩
instance:TSZ 67 17:=⟨Jka⟩
instance:TSZ 70 1:=⟨Xwa⟩
instance:TSZ 73 1:=⟨Qka⟩
instance:TSZ 75 4:=⟨Jya⟩
instance:TSZ 79 1:=⟨Xjb⟩
instance:TSZ 82 1:=⟨Vwa⟩
instance:TSZ 84 5:=⟨Jmb⟩
instance:TSZ 94 3:=⟨Uy⟩
instance:TSZ 96 6:=⟨Qna⟩
instance:TSZ 102 1:=⟨Qgb⟩
instance:TSZ 103 1:=⟨Zyc⟩
instance:TSZ 108 13:=⟨Zmd⟩
instance:TSZ 109 1:=⟨Qib⟩
instance:TSZ 115 1:=⟨Ucb⟩
instance:TSZ 120 1:=⟨Xwe⟩
instance:TSZ 123 1:=⟨Jnb⟩
instance:TSZ 127 4:=⟨Xxc⟩
instance:TSZ 130 1:=⟨Wac⟩
instance:TSZ 134 3:=⟨Zpd⟩
instance:TSZ 146 1:=⟨Use⟩
instance:TSZ 149 27:=⟨Zqd⟩
instance:TSZ 152 1:=⟨Ybc⟩
instance:TSZ 156 1:=⟨Xlb⟩
instance:TSZ 160 1:=⟨Xzd⟩
instance:TSZ 162 3:=⟨Ueb⟩
instance:TSZ 164 1:=⟨Uqd⟩
instance:TZE 1 (.nilFunc):=⟨Whf⟩
instance:TZE 2 (.int .i64 0):=⟨Une⟩
instance:TZE 3 (.int .i64 0):=⟨Zvc⟩
instance:TZE 4 (.bool false):=⟨Zjd⟩
instance:TZE 5 (.int .u8 0):=⟨Ure⟩
instance:TZE 9 (.string ⟨#[]⟩):=⟨Xue⟩
instance:TZE 20 (.nilIface):=⟨Zld⟩
instance:TZE 22 (.slice none 0 0):=⟨Vdc⟩
instance:TZE 24 (.agg #[.int .i64 0,.string ⟨#[]⟩]):=⟨Xd⟩
instance:TZE 26 (.agg #[.int .i64 0,.string ⟨#[]⟩,.int .i64 0,.int .i64 0,.slice none 0 0,.int .i64 0,.string ⟨#[]⟩,.int .i64 0,.int .i64 0]):=⟨Zp⟩
instance:TZE 30 (.int .i64 0):=⟨Jgb⟩
instance:TZE 48 (.agg #[.int .i64 0,.int .i64 0]):=⟨Ztb⟩
instance:TZE 50 (.pointer none):=⟨Qdb⟩
instance:TZE 51 (.map none):=⟨Qfb⟩
instance:TZE 52 (.map none):=⟨Yxb⟩
instance:TZE 53 (.map none):=⟨Jkb⟩
instance:TZE 54 (.map none):=⟨Uha⟩
instance:TZE 55 (.slice none 0 0):=⟨Zvb⟩
instance:TZE 56 (.slice none 0 0):=⟨Xve⟩
instance:TZE 57 (.slice none 0 0):=⟨Vec⟩
instance:TZE 59 (.agg #[.int .i64 0,.string ⟨#[]⟩,.int .i64 0,.int .i64 0,.slice none 0 0,.int .i64 0,.string ⟨#[]⟩,.int .i64 0,.int .i64 0,.map none,.map none,.map none,.map none,.slice none 0 0,.slice none 0 0,.slice none 0 0]):=⟨Zwb⟩
instance:TZE 61 (.agg #[.int .i64 0,.slice none 0 0,.int .i64 0,.string ⟨#[]⟩]):=⟨Qg⟩
instance:TZE 64 (.pointer none):=⟨Uja⟩
instance:TZE 65 (.slice none 0 0):=⟨Vea⟩
instance:TZE 67 (.agg #[.int .i64 0,.string ⟨#[]⟩,.int .i64 0,.int .i64 0,.slice none 0 0,.int .i64 0,.string ⟨#[]⟩,.int .i64 0,.int .i64 0,.slice none 0 0,.int .i64 0,.int .i64 0,.slice none 0 0,.int .i64 0,.string ⟨#[]⟩,.int .i64 0,.int .i64 0]):=⟨Jla⟩
instance:TZE 70 (.slice none 0 0):=⟨Xwc⟩
instance:TZE 73 (.pointer none):=⟨Qla⟩
instance:TZE 75 (.agg #[.slice none 0 0,.int .i64 0,.int .i64 0,.bool false]):=⟨Xga⟩
instance:TZE 79 (.nilFunc):=⟨Xkb⟩
instance:TZE 82 (.slice none 0 0):=⟨Yqa⟩
instance:TZE 84 (.agg #[.string ⟨#[]⟩,.int .i64 0,.string ⟨#[]⟩,.int .i64 0,.int .i64 0]):=⟨Ju⟩
instance:TZE 94 (.agg #[.int .i64 0,.string ⟨#[]⟩,.int .i64 0]):=⟨Xu⟩
instance:TZE 96 (.agg #[.string ⟨#[]⟩,.int .i64 0,.string ⟨#[]⟩,.int .i64 0,.int .i64 0,.int .i64 0]):=⟨Qoa⟩
instance:TZE 102 (.nilFunc):=⟨Qhb⟩
instance:TZE 103 (.nilFunc):=⟨Zyb⟩
instance:TZE 108 (.agg #[.string ⟨#[]⟩,.string ⟨#[]⟩,.string ⟨#[]⟩,.string ⟨#[]⟩,.string ⟨#[]⟩,.string ⟨#[]⟩,.string ⟨#[]⟩,.string ⟨#[]⟩,.string ⟨#[]⟩,.string ⟨#[]⟩,.string ⟨#[]⟩,.string ⟨#[]⟩,.string ⟨#[]⟩]):=⟨Znd⟩
instance:TZE 109 (.nilFunc):=⟨Qjb⟩
instance:TZE 115 (.slice none 0 0):=⟨Udb⟩
instance:TZE 120 (.int .u64 0):=⟨Xxe⟩
instance:TZE 123 (.pointer none):=⟨Job⟩
instance:TZE 127 (.agg #[.string ⟨#[]⟩,.int .i64 0,.slice none 0 0,.slice none 0 0]):=⟨Xyc⟩
instance:TZE 130 (.slice none 0 0):=⟨Wbc⟩
instance:TZE 134 (.agg #[.string ⟨#[]⟩,.int .i64 0,.string ⟨#[]⟩]):=⟨Qqa⟩
instance:TZE 146 (.nilIface):=⟨Ute⟩
instance:TZE 149 (.agg #[.string ⟨#[]⟩,.string ⟨#[]⟩,.string ⟨#[]⟩,.string ⟨#[]⟩,.string ⟨#[]⟩,.string ⟨#[]⟩,.string ⟨#[]⟩,.string ⟨#[]⟩,.string ⟨#[]⟩,.string ⟨#[]⟩,.string ⟨#[]⟩,.string ⟨#[]⟩,.string ⟨#[]⟩,.string ⟨#[]⟩,.string ⟨#[]⟩,.string ⟨#[]⟩,.string ⟨#[]⟩,.string ⟨#[]⟩,.string ⟨#[]⟩,.string ⟨#[]⟩,.string ⟨#[]⟩,.string ⟨#[]⟩,.string ⟨#[]⟩,.string ⟨#[]⟩,.string ⟨#[]⟩,.string ⟨#[]⟩,.string ⟨#[]⟩]):=⟨Zrd⟩
instance:TZE 152 (.int .i64 0):=⟨Ycc⟩
instance:TZE 156 (.pointer none):=⟨Xmb⟩
instance:TZE 160 (.slice none 0 0):=⟨Wad⟩
instance:TZE 162 (.agg #[.string ⟨#[]⟩,.string ⟨#[]⟩,.nilIface]):=⟨Ufb⟩
instance:TZE 164 (.pointer none):=⟨Urd⟩
instance:TYE 22 26 9 104:=⟨Zd⟩
instance:TYE 55 82 1 24:=⟨Yx⟩
instance:TYE 56 3 1 8:=⟨Yha⟩
instance:TYE 57 24 2 24:=⟨Wt⟩
instance:TYE 65 96 6 64:=⟨Vfa⟩
instance:TYE 70 94 3 32:=⟨Yv⟩
instance:TYE 82 84 5 56:=⟨Vn⟩
instance:TYE 115 103 1 8:=⟨Zga⟩
instance:TYE 130 134 3 40:=⟨Xgb⟩
instance:TYE 160 5 1 1:=⟨Wbd⟩
instance:TST 9:=⟨Yq⟩
instance:TFL 24 [0,1]:=⟨Wf⟩
instance:TUB 4:=⟨Xwd⟩
instance:TPL 24 [(0,1),(1,1)]:=⟨Vd⟩
instance:TPL 26 [(0,1),(1,1),(2,1),(3,1),(4,1),(5,2),(7,1),(8,1)]:=⟨Xt⟩
instance:TPL 48 [(0,1),(1,1)]:=⟨Zub⟩
instance:TPL 59 [(0,9),(9,1),(10,1),(11,1),(12,1),(13,1),(14,1),(15,1)]:=⟨Zxb⟩
instance:TPL 61 [(0,1),(1,1),(2,2)]:=⟨Wka⟩
instance:TPL 67 [(0,9),(9,1),(10,1),(11,1),(12,1),(13,2),(15,1),(16,1)]:=⟨Jma⟩
instance:TPL 75 [(0,1),(1,1),(2,1),(3,1)]:=⟨Xha⟩
instance:TPL 84 [(0,1),(1,2),(3,1),(4,1)]:=⟨Wla⟩
instance:TPL 94 [(0,1),(1,1),(2,1)]:=⟨Qi⟩
instance:TPL 96 [(0,1),(1,2),(3,1),(4,1),(5,1)]:=⟨Qpa⟩
instance:TPL 127 [(0,1),(1,1),(2,1),(3,1)]:=⟨Xzc⟩
instance:TPL 134 [(0,1),(1,2)]:=⟨Jpb⟩
instance:TPL 162 [(0,1),(1,1),(2,1)]:=⟨Ugb⟩
theorem CL{Z:List Da→Act→Aa→Prop}{ops:List Oper}{cl:List Nat}{lv:List Bool}{W0:Aa}{n:Nat}{K:Act→Aa→Prop}{k:Nat}{rest:List Oper}{σ:List Ent}{w:Aa}{d:Nat}{ty:Ba}{pos:String}{after:Array Edge}{f:FuncId}{xs:List Ea}{vs:List Ga}{ats:Array Ba}{R:Ga→Aa→Prop}(hC:Ret PP f vs.toArray w R)
  (h:∀ v w',R v w'→(clOf cl k=1→G w w')∧SR PP Z ops cl lv W0 n K (k+1) rest ((d,True,v) :: σ) w') (hx:Vba n σ True xs vs:=by repeat first|exact aq0|refine aqc rfl ?_)
  (hb:(!Aaa (clOf cl k) 0 && !Aaa (clOf cl k) 3&&Aia d n)=true:=by exact rfl) (hf:goFn PP f=true:=by kernel_rfl) :
  SR PP Z ops cl lv W0 n K k (⟨some d,.call { callee:=.value (.func f),args:=xs.toArray,argTypes:=ats },ty,pos,after,none⟩::rest) σ w:=Wm hb (Yd hf Ve hx Os) hC h
theorem RC{p A B q:Prop}(h:A→B→q)(k:(A→B→q)→p:=by exact fun h=>⟨(by first|exact nw1|exact fun _=>ga),(by first|exact h (g.trans ga) (E.gt ga rfl)|exact h (gtg g ga) (E.grow ga)|exact h (g.trans ga) (E.grow ga))⟩):p:=k h
theorem EX{p:Prop}(h:p:=by first
  | exact Zc rfl
  | exact Xh
  | exact Zz rfl id
  | exact Zz rfl (fun h=>h.1)
  | exact Zhb
  | exact Ve
  | exact Zz rfl (fun h=>h.1.1)):p:=h
theorem CE{p:Prop}(h:p:=by first
  | exact E.g0.at_ rfl
  | exact E.g1.at_ rfl
  | exact E.g2.at_ rfl
  | exact E.g3.at_ rfl
  | exact E.g4.at_ rfl
  | exact E.g5.at_ rfl
  | exact E.g6.at_ rfl
  | exact E.g7.at_ rfl
  | exact E.g8.at_ rfl
  | exact E.g9.at_ rfl
  | exact E.g10.at_ rfl
  | exact E.g11.at_ rfl
  | exact E.g12.at_ rfl
  | exact h.B.at_ rfl
  | exact hB.at_ rfl
  | exact (hs.grow g).B.at_ rfl
  | exact hcell.one (i:=0) rfl
  | exact hcell.one (i:=1) rfl
  | exact hcell.one (i:=2) rfl
  | exact hcell.one (i:=3) rfl
  | exact hcell.one (i:=4) rfl
  | exact hcell.one (i:=5) rfl
  | exact hcell.one (i:=6) rfl
  | exact hcell.one (i:=7) rfl
  | exact hcell.one (i:=8) rfl
  | exact by assumption):p:=h
theorem ROW{p:Prop}(h:p:=by first
  | exact E.g0.row
  | exact E.g1.row
  | exact E.g2.row
  | exact E.g3.row
  | exact E.g4.row
  | exact E.g5.row
  | exact E.g6.row
  | exact E.g7.row
  | exact E.g8.row
  | exact E.g9.row
  | exact E.g10.row
  | exact E.g11.row
  | exact E.g12.row
  | exact hcell
  | exact hcell.grow g
  | exact by assumption
  | exact h.B.row.part 13 2
  | exact hcell.part 5 2
  | exact E.g0.row.part 5 2
  | exact E.g1.row.part 5 2
  | exact E.g2.row.part 5 2
  | exact E.g3.row.part 5 2
  | exact E.g4.row.part 5 2
  | exact E.g5.row.part 5 2
  | exact E.g6.row.part 5 2
  | exact E.g7.row.part 5 2
  | exact E.g8.row.part 5 2
  | exact E.g9.row.part 5 2
  | exact E.g10.row.part 5 2
  | exact E.g11.row.part 5 2
  | exact E.g12.row.part 5 2):p:=h
theorem PU{p:Prop}(h:p:=by first
  | (apply Zm;exact EX)
  | (apply Zg;exact FOF.h;exact EX)
  | (apply Wd;exact EX)
  | (apply Jza;exact EX;exact EX)
  | (apply Ww;exact EX;exact EX)
  | (apply Wb;exact EX;exact EX)
  | (apply Vsa;exact EX;exact EX)
  | (apply Wpc;exact EX)
  | (apply Xia;exact EX)
  | (apply Uwb;exact TYE.h;exact EX)
  | (apply Wqc;exact EX;exact EX)
  | (apply Zca;exact TST.h;exact EX)
  | (apply Jw;exact EX;exact rfl)
  | (apply rd_le;exact EX;exact EX)
  | (apply Uib;exact EX;exact EX)
  | (apply Woc;exact EX;exact EX)
  | (apply Jif;exact EX;exact EX)
  | (apply Xs;exact TYE.h;exact EX;exact EX;exact (fun _=>by omega);exact fun _=>hpe)
  | (apply Jca;exact EX;exact EX;exact (fun _=>by omega))
  | (apply Xja;exact EX;exact EX;exact (fun _=>by omega))
  | (apply Qy;exact TFL.h;exact EX;exact EX;exact rfl)
  | (apply Uae;exact EX;exact EX)
  | (apply Zdg;exact TUB.h;exact EX;exact EX)
  | (apply Qp;exact TST.h;exact EX;exact EX;exact (fun _=>by omega))
  | (apply Qwb;exact TFL.h;exact EX;exact EX;exact rfl)
  | (apply Ypb;exact TST.h;exact EX;exact EX;exact EX;exact (fun _=>by omega))
  | (apply Qmc;exact TST.h;exact EX;exact EX;exact (fun _=>by omega))
  | (apply Vaa;exact TYE.h;exact EX;exact EX;exact (fun _=>by omega))):p:=h
theorem LD{p:Prop}(h:p:=by first
  | (apply Zw;exact TY1.h;exact EX;exact fun _=>CE)
  | (apply Zq;exact TYA.h;exact EX;rotate_left;exact fun _=>ROW;exact rfl)):p:=h
def Jtb(σ:List Ent):List Nat→Option (List Ent)
 | []=>some []
 | k::ks=>match look σ k with
  | none=>none
  | some (c,v)=>match Jtb σ ks with
   | none=>none
   | some τ=>some ((k,c,v) :: τ)
theorem Vga{σ:List Ent}:∀ {ks:List Nat} {τ:List Ent},Jtb σ ks=some τ→Sub τ σ
 | [],τ,h=>by injection h with h;subst h;exact Zo _
 | k::ks,τ,h=>by
  unfold Jtb at h;split at h;cases h;rename_i c v hl;split at h;cases h;rename_i τ' hk;injection h with h;subst h;exact Za hl (Vga hk)
section
variable {P:Fa} {Z:List Da→Act→Aa→Prop} {ops:List Oper} {cl:List Nat} {lv:List Bool} {W0:Aa} {n:Nat} {K:Act→Aa→Prop} {k:Nat} {rest:List Oper} {σ τ:List Ent} {w:Aa} {d:Nat} {op:Op} {ty:Ba} {pos:String} {after:Array Edge} {v:Ga} {N T:Act→Aa→Prop} {X:List (Nat×(Act→Aa→Prop))}
theorem SK(ks:List Nat)(h:SR P Z ops cl lv W0 n K k rest τ w)(hk:Jtb σ ks=some τ:=by exact rfl):SR P Z ops cl lv W0 n K k rest σ w:=Wp τ (Vga hk) h
theorem Y2{B:List Da→Aa→Prop}{f:FuncId}{x1 x2:Ea}{v1 v2:Ga}{ats:Array Ba}{R:Ga→Aa→Prop}{Rp:List Da→Aa→Prop}(hb:(!Aaa (clOf cl k) 0 && !Aaa (clOf cl k) 3&&Aia d n)=true)(hf:goFn P f=true)(h1:opv σ x1=some (True,v1))(h2:opv σ x2=some (True,v2))(hC:RetP P f #[v1,v2] w R Rp)(hz:∀ ch w',Rp ch w'→B ch w')
  (h:∀ v w',R v w'→(clOf cl k=1→G w w')∧SR P (ZA B) ops cl lv W0 n K (k+1) rest ((d,True,v) :: σ) w'):SR P (ZA B) ops cl lv W0 n K k (⟨some d,.call { callee:=.value (.func f),args:=#[x1,x2],argTypes:=ats },ty,pos,after,none⟩::rest) σ w:=Zzb hb (Yd hf Ve (aqc h1 (aqc h2 aq0)) rfl) hC hz h
theorem Y3{B:List Da→Aa→Prop}{f:FuncId}{x1 x2 x3:Ea}{v1 v2 v3:Ga}{ats:Array Ba}{R:Ga→Aa→Prop}{Rp:List Da→Aa→Prop}(hb:(!Aaa (clOf cl k) 0 && !Aaa (clOf cl k) 3&&Aia d n)=true)(hf:goFn P f=true)(h1:opv σ x1=some (True,v1))(h2:opv σ x2=some (True,v2))(h3:opv σ x3=some (True,v3))(hC:RetP P f #[v1,v2,v3] w R Rp)(hz:∀ ch w',Rp ch w'→B ch w')
  (h:∀ v w',R v w'→(clOf cl k=1→G w w')∧SR P (ZA B) ops cl lv W0 n K (k+1) rest ((d,True,v) :: σ) w'):SR P (ZA B) ops cl lv W0 n K k (⟨some d,.call { callee:=.value (.func f),args:=#[x1,x2,x3],argTypes:=ats },ty,pos,after,none⟩::rest) σ w:=Zzb hb (Yd hf Ve (aqc h1 (aqc h2 (aqc h3 aq0))) rfl) hC hz h
theorem DK{ρ:Option Nat}{ds:List Deferred}{N T:DPost}{X:List (Nat×DPost)}{Z:List Da→DPost}{c:Code}(ks:List Nat)(h:SCD P ρ n ds c N X T Z τ w)(hk:Jtb σ ks=some τ:=by exact rfl):SCD P ρ n ds c N X T Z σ w:=Qra τ (Vga hk) h
theorem Kp{w w':Aa}{b j:Nat}{e:Ba}{l:List Ga}(h:Blk w b e l)(hg:w.grownBy w' (some j))(k:b≠j:=by first|assumption|exact fun e=>(by assumption:j≠b) e.symm|omega):Blk w' b e l:=h.keep hg fun q=>k (by injection q)
theorem KC{B0:List Da→Aa→Prop}{c:Code}(ks:List Nat)(h:SZ P B0 n c N X T τ w)(hk:Jtb σ ks=some τ:=by exact rfl):SZ P B0 n c N X T σ w:=Zja τ (Vga hk) h
theorem OR{B0:List Da→Aa→Prop}{t:Nat}{g:Bool}{y:Code}{b0:Bool}(ks:List Nat)(hy:g=false→SZ P B0 n y (fun a w'=>Kn n ((t,True,.bool b0) :: τ) a∧w'=w) X T σ w)(hN:∀ a,Kn n ((t,True,.bool (g || b0)) :: τ) a→N a w)(hk:Jtb σ (t::ks)=some ((t,True,.bool g) :: τ):=by exact rfl)(hx:look σ t=some (True,.bool g):=by exact rfl) :
  SZ P B0 n (.cond (.tmp t) .skip y) N X T σ w:=Zbe τ (Vga hk) hx hy hN
theorem TK{cl ms:List Nat}{row:RelX}{m:Nat}{L:List Nat}(ks:List Nat)(h:ST P Z ops cl ms row n K m L τ w)(hk:Jtb σ ks=some τ:=by exact rfl):ST P Z ops cl ms row n K m L σ w:=Uea τ (Vga hk) h
theorem WK{f:FuncId}{fn:Func}{c:Code}{args:List Ga}{R:Ga→Aa→Prop}(m:Nat)(ks:List Nat)(hf:P.funcs[f]? = some fn)(h:SC P m c (fun a w=>bodyPost P fn (fun e w'=>∃ v,e = .returned v∧R v w') .normal a w) [] (fun a w=>bodyPost P fn (fun e w'=>∃ v,e = .returned v∧R v w') .ret a w) τ w)
  (hb:fn.body=some c:=by exact rfl) (hm:args.length+(fn.ntmps-args.length)=m:=by exact rfl) (hk:Jtb (argsK 0 args) ks=some τ:=by exact rfl):Ret P f args.toArray w R:=Ji hf hb hm τ (Vga hk) h
theorem CP{f:FuncId}{xs:List Ea}{vs:List Ga}{ats:Array Ba}(hC:Ret P f vs.toArray w fun u w'=>u=v∧G w w')(h:∀ w',G w w'→SR P Z ops cl lv W0 n K (k+1) rest ((d,True,v) :: σ) w')(hx:Vba n σ True xs vs:=by repeat first|exact aq0|refine aqc rfl ?_)
  (hb:(!Aaa (clOf cl k) 0 && !Aaa (clOf cl k) 3&&Aia d n)=true:=by exact rfl) (hf:goFn P f=true:=by kernel_rfl):SR P Z ops cl lv W0 n K k (⟨some d,.call { callee:=.value (.func f),args:=xs.toArray,argTypes:=ats },ty,pos,after,none⟩::rest) σ w:=Ub hb (Yd hf Ve hx Os) hC h
theorem CG{f:FuncId}{xs:List Ea}{vs:List Ga}{ats:Array Ba}{g t:Nat}{want b:Bool}{c0:Prop}(hC:c0∧b=want→Ret P f vs.toArray w fun u w'=>u=v∧G w w')(h:∀ w',G w w'→SR P Z ops cl lv W0 n K (k+1) rest ((d,c0∧b=want,v) :: σ) w')(hgd:((ops.toArray[g]?).bind (·.dst))=some t:=by exact rfl)(hlk:look σ t=some (c0,.bool b):=by exact rfl)
  (hx:Vba n σ (c0∧b=want) xs vs:=by repeat first|exact Xj|refine Yi EX ?_)
  (hb:(!Aaa (clOf cl k) 0 && !Aaa (clOf cl k) 3&&Aia d n)=true:=by exact rfl) (hf:goFn P f=true:=by kernel_rfl):SR P Z ops cl lv W0 n K k (⟨some d,.call { callee:=.value (.func f),args:=xs.toArray,argTypes:=ats },ty,pos,after,some (g,want)⟩::rest) σ w:=Qa hb hgd hlk (fun _=>Yd hf Ve hx Os) hC h
end
section
variable {P:Fa} {Z:List Da→Act→Aa→Prop} {ops:List Oper} {cl:List Nat} {lv:List Bool} {W0:Aa} {n:Nat} {K:Act→Aa→Prop} {k:Nat} {rest:List Oper} {σ τ:List Ent} {w:Aa} {d:Nat} {op:Op} {ty:Ba} {pos:String} {after:Array Edge} {v:Ga} {N T:Act→Aa→Prop} {X:List (Nat×(Act→Aa→Prop))} {x y:Ea} {t u:Ba}
theorem isC{c:Code}{B:List Da→Aa→Prop}(h:SZ P B n c N X T σ w):SZ P B n c N X T σ w:=h
theorem isR{l:List Oper}(h:SR P Z ops cl lv W0 n K k l σ w):SR P Z ops cl lv W0 n K k l σ w:=h
theorem isL(h:SR P Z ops cl lv W0 n K k (⟨some d,.load t x,ty,pos,after,none⟩::rest) σ w):SR P Z ops cl lv W0 n K k (⟨some d,.load t x,ty,pos,after,none⟩::rest) σ w:=h
theorem isG{g:Nat×Bool}(h:SR P Z ops cl lv W0 n K k (⟨some d,op,ty,pos,after,some g⟩::rest) σ w):SR P Z ops cl lv W0 n K k (⟨some d,op,ty,pos,after,some g⟩::rest) σ w:=h
theorem isB{b:BinOp}(h:SR P Z ops cl lv W0 n K k (⟨some d,.binOp b t x y u,ty,pos,after,none⟩::rest) σ w):SR P Z ops cl lv W0 n K k (⟨some d,.binOp b t x y u,ty,pos,after,none⟩::rest) σ w:=h
theorem isN(hb:Aaa (clOf cl k) 3=true)(h:SR P Z ops cl lv W0 n K k (⟨some d,op,ty,pos,after,none⟩::rest) σ w):SR P Z ops cl lv W0 n K k (⟨some d,op,ty,pos,after,none⟩::rest) σ w:=h
end
structure Wr (q:Prop):Prop where h:q
theorem AU{p q:Prop}(h:q)(k:Wr q→p:=by
 intro h0
 repeat first
  | (refine isC ?_;first|(refine Zn ?_;try refine Zu ?_)|refine Zu ?_|refine Yp (kq ?_)|refine Yz ?_|refine Jp rfl (kq ?_))
  | (refine isR ?_;first|(refine Ze ?_;refine kq ?_)|(refine isL ?_;first|refine Vx TYA.h rfl rfl ROW ?_|refine Xr TY1.h rfl CE ?_)|(refine isG ?_;first|(refine' Zv rfl rfl rfl ?_ ?_;rotate_left;exact fun _=>PU)|(refine' Xz rfl rfl rfl ?_ ?_;rotate_left;exact LD))|(refine isB ?_;first|refine Uke rfl rfl ?_|refine Jwa rfl rfl ?_|refine Vta rfl rfl (by omega) ?_|refine Uie rfl rfl ?_|refine Znb rfl rfl ?_|refine Uje rfl rfl ?_|refine Zfg rfl rfl ?_|(refine' Zs rfl ?_ ?_;rotate_left;exact fun _=>PU))|(refine isN rfl ?_;first|refine Zx rfl ?_|refine Xc rfl ?_|refine Xm FOF.h rfl ?_|refine Un rfl ?_|refine Uhe rfl ?_|refine Waa TYE.h rfl ?_|refine Xsa TYE.h rfl rfl (by omega) (by first|exact hpe|assumption) ?_|refine Wga rfl rfl ?_|(refine' Zs rfl ?_ ?_;rotate_left;exact fun _=>PU)|refine Zsa TZE.h TPL.h (by first|exact pq0|exact pqc rfl pq0|repeat first|exact pq0|refine pqc rfl ?_) rfl rfl ?_))
  | (refine Qe ?_;refine kq ?_)
 exact h0.h):p:=k ⟨h⟩
theorem IF{p A B C D:Prop}(hT:A→B)(hF:C→D)(k:(A→B)→(C→D)→p:=by intro hT hF;refine AU ?_;exact Qk rfl hT hF):p:=k hT hF
theorem RS1{p:Prop}(h:p:=by repeat first|exact Ug|(apply Wua;exact rfl)|(apply Zba;exact rfl;exact TYA.h;rotate_left;exact ROW;rotate_right;exact rfl)|(apply Uyb;exact rfl;exact TY1.h;exact CE)):p:=h
theorem RTN{p q:Prop}(h:q)(k:Wr q→p:=by intro h;refine AU ?_;refine Xw ?_;first|exact Qd rfl rfl h.h|exact Qga rfl RS1 h.h|exact Zka rfl rfl RS1 rfl h.h|exact Ube rfl h.h):p:=k ⟨h⟩
theorem AN{p:Prop}{R A L q:Nat→Aa→Prop}{B:Nat→Prop}(h:∀ b w,R b w→B b→A b w→L b w→q b w)(k:(∀ b w,R b w→B b→A b w→L b w→q b w)→p:=by
 intro h;refine AU ?_
 first
  | refine Xi rfl TZE.h rfl (fun b w N=>h b w N (Wq N g.size) (gtg g N.g) (E.new N))
  | refine Xi rfl TZE.h rfl (fun b w N=>h b w N (N.ge g) (g.trans N.g) (E.new N))):p:=k h
theorem AM{p:Prop}{R A L q:Nat→Aa→Prop}{B:Nat→Prop}(h:∀ b w,R b w→B b→A b w→L b w→q b w)(k:(∀ b w,R b w→B b→A b w→L b w→q b w)→p:=by
 intro h;refine AU ?_
 first
  | refine Xi rfl TZE.h rfl (fun b w N=>h b w N (Wq N g.size) (gtg g N.g) ((Zla _).new N))
  | refine Xi rfl TZE.h rfl (fun b w N=>h b w N (N.ge g) (g.trans N.g) ((Zla _).new N))):p:=k h
theorem BN{p:Prop}{R A L q:Nat→Aa→Prop}{B:Nat→Prop}(h:∀ b w,R b w→B b→A b w→L b w→q b w)(k:(∀ b w,R b w→B b→A b w→L b w→q b w)→p:=by
 intro h;refine AU ?_
 first
  | refine Xza rfl (Yba rfl) rfl (fun b w N=>h b w N (Wq N g.size) (gtg g N.g) (E.new N))
  | refine Xza rfl (Yba rfl) rfl (fun b w N=>h b w N (N.ge g) (g.trans N.g) (E.new N))):p:=k h
theorem BM{p:Prop}{R A L q:Nat→Aa→Prop}{B:Nat→Prop}(h:∀ b w,R b w→B b→A b w→L b w→q b w)(k:(∀ b w,R b w→B b→A b w→L b w→q b w)→p:=by
 intro h;refine AU ?_
 first
  | refine Xza rfl (Yba rfl) rfl (fun b w N=>h b w N (Wq N g.size) (gtg g N.g) ((Zla _).new N))
  | refine Xza rfl (Yba rfl) rfl (fun b w N=>h b w N (N.ge g) (g.trans N.g) ((Zla _).new N))):p:=k h
theorem CN{p:Prop}{R A L q:Nat→Aa→Prop}{B:Nat→Prop}(h:∀ b w,R b w→B b→A b w→L b w→q b w)(k:(∀ b w,R b w→B b→A b w→L b w→q b w)→p:=by
 intro h;refine AU ?_
 first
  | refine Yf _ rfl TYE.h TZE.h (by first|exact pqc rfl pq0|exact pqc rfl (pqc rfl pq0)|exact pqc rfl (pqc rfl (pqc rfl pq0))|exact pqc rfl (pqc rfl (pqc rfl (pqc rfl pq0)))|exact pqc rfl (pqc rfl (pqc rfl (pqc rfl (pqc rfl pq0))))|exact pqc rfl (pqc rfl (pqc rfl (pqc rfl (pqc rfl (pqc rfl pq0)))))) rfl rfl (fun b w N=>h b w N (Wq N g.size) (gtg g N.g) (E.new N))
  | refine Yf _ rfl TYE.h TZE.h (by first|exact pqc rfl pq0|exact pqc rfl (pqc rfl pq0)|exact pqc rfl (pqc rfl (pqc rfl pq0))|exact pqc rfl (pqc rfl (pqc rfl (pqc rfl pq0)))|exact pqc rfl (pqc rfl (pqc rfl (pqc rfl (pqc rfl pq0))))|exact pqc rfl (pqc rfl (pqc rfl (pqc rfl (pqc rfl (pqc rfl pq0)))))) rfl rfl (fun b w N=>h b w N (N.ge g) (g.trans N.g) (E.new N))):p:=k h
theorem CM{p:Prop}{R A L q:Nat→Aa→Prop}{B:Nat→Prop}(h:∀ b w,R b w→B b→A b w→L b w→q b w)(k:(∀ b w,R b w→B b→A b w→L b w→q b w)→p:=by
 intro h;refine AU ?_
 first
  | refine Yf _ rfl TYE.h TZE.h (by first|exact pqc rfl pq0|exact pqc rfl (pqc rfl pq0)|exact pqc rfl (pqc rfl (pqc rfl pq0))|exact pqc rfl (pqc rfl (pqc rfl (pqc rfl pq0)))|exact pqc rfl (pqc rfl (pqc rfl (pqc rfl (pqc rfl pq0))))|exact pqc rfl (pqc rfl (pqc rfl (pqc rfl (pqc rfl (pqc rfl pq0)))))) rfl rfl (fun b w N=>h b w N (Wq N g.size) (gtg g N.g) ((Zla _).new N))
  | refine Yf _ rfl TYE.h TZE.h (by first|exact pqc rfl pq0|exact pqc rfl (pqc rfl pq0)|exact pqc rfl (pqc rfl (pqc rfl pq0))|exact pqc rfl (pqc rfl (pqc rfl (pqc rfl pq0)))|exact pqc rfl (pqc rfl (pqc rfl (pqc rfl (pqc rfl pq0))))|exact pqc rfl (pqc rfl (pqc rfl (pqc rfl (pqc rfl (pqc rfl pq0)))))) rfl rfl (fun b w N=>h b w N (N.ge g) (g.trans N.g) ((Zla _).new N))):p:=k h
theorem AS{p B:Prop}{R A L q:Aa→Prop}(h:∀ w,R w→B→A w→L w→q w)(k:(∀ w,R w→B→A w→L w→q w)→p:=by
 intro h;refine AU ?_
 first
  | refine Yoa TSZ.h rfl rfl rfl E.g0 (fun w r _ B=>h w r E.g0 (by first|exact Yg g r (by first|assumption|omega)|exact Yn g r (by first|assumption|omega)) (E.s0 r B))
  | refine Xwb TSZ.h rfl rfl rfl E.g0 (fun w r _ B=>h w r E.g0 (by first|exact Yg g r (by first|assumption|omega)|exact Yn g r (by first|assumption|omega)) (E.s0 r B))
  | refine Yoa TSZ.h rfl rfl rfl E.g1 (fun w r _ B=>h w r E.g1 (by first|exact Yg g r (by first|assumption|omega)|exact Yn g r (by first|assumption|omega)) (E.s1 r B))
  | refine Xwb TSZ.h rfl rfl rfl E.g1 (fun w r _ B=>h w r E.g1 (by first|exact Yg g r (by first|assumption|omega)|exact Yn g r (by first|assumption|omega)) (E.s1 r B))
  | refine Yoa TSZ.h rfl rfl rfl E.g2 (fun w r _ B=>h w r E.g2 (by first|exact Yg g r (by first|assumption|omega)|exact Yn g r (by first|assumption|omega)) (E.s2 r B))
  | refine Xwb TSZ.h rfl rfl rfl E.g2 (fun w r _ B=>h w r E.g2 (by first|exact Yg g r (by first|assumption|omega)|exact Yn g r (by first|assumption|omega)) (E.s2 r B))
  | refine Yoa TSZ.h rfl rfl rfl E.g3 (fun w r _ B=>h w r E.g3 (by first|exact Yg g r (by first|assumption|omega)|exact Yn g r (by first|assumption|omega)) (E.s3 r B))
  | refine Xwb TSZ.h rfl rfl rfl E.g3 (fun w r _ B=>h w r E.g3 (by first|exact Yg g r (by first|assumption|omega)|exact Yn g r (by first|assumption|omega)) (E.s3 r B))
  | refine Yoa TSZ.h rfl rfl rfl E.g4 (fun w r _ B=>h w r E.g4 (by first|exact Yg g r (by first|assumption|omega)|exact Yn g r (by first|assumption|omega)) (E.s4 r B))
  | refine Xwb TSZ.h rfl rfl rfl E.g4 (fun w r _ B=>h w r E.g4 (by first|exact Yg g r (by first|assumption|omega)|exact Yn g r (by first|assumption|omega)) (E.s4 r B))
  | refine Yoa TSZ.h rfl rfl rfl E.g5 (fun w r _ B=>h w r E.g5 (by first|exact Yg g r (by first|assumption|omega)|exact Yn g r (by first|assumption|omega)) (E.s5 r B))
  | refine Xwb TSZ.h rfl rfl rfl E.g5 (fun w r _ B=>h w r E.g5 (by first|exact Yg g r (by first|assumption|omega)|exact Yn g r (by first|assumption|omega)) (E.s5 r B))
  | refine Yoa TSZ.h rfl rfl rfl E.g6 (fun w r _ B=>h w r E.g6 (by first|exact Yg g r (by first|assumption|omega)|exact Yn g r (by first|assumption|omega)) (E.s6 r B))
  | refine Xwb TSZ.h rfl rfl rfl E.g6 (fun w r _ B=>h w r E.g6 (by first|exact Yg g r (by first|assumption|omega)|exact Yn g r (by first|assumption|omega)) (E.s6 r B))
  | refine Yoa TSZ.h rfl rfl rfl E.g7 (fun w r _ B=>h w r E.g7 (by first|exact Yg g r (by first|assumption|omega)|exact Yn g r (by first|assumption|omega)) (E.s7 r B))
  | refine Xwb TSZ.h rfl rfl rfl E.g7 (fun w r _ B=>h w r E.g7 (by first|exact Yg g r (by first|assumption|omega)|exact Yn g r (by first|assumption|omega)) (E.s7 r B))
  | refine Yoa TSZ.h rfl rfl rfl E.g8 (fun w r _ B=>h w r E.g8 (by first|exact Yg g r (by first|assumption|omega)|exact Yn g r (by first|assumption|omega)) (E.s8 r B))
  | refine Xwb TSZ.h rfl rfl rfl E.g8 (fun w r _ B=>h w r E.g8 (by first|exact Yg g r (by first|assumption|omega)|exact Yn g r (by first|assumption|omega)) (E.s8 r B))
  | refine Yoa TSZ.h rfl rfl rfl E.g9 (fun w r _ B=>h w r E.g9 (by first|exact Yg g r (by first|assumption|omega)|exact Yn g r (by first|assumption|omega)) (E.s9 r B))
  | refine Xwb TSZ.h rfl rfl rfl E.g9 (fun w r _ B=>h w r E.g9 (by first|exact Yg g r (by first|assumption|omega)|exact Yn g r (by first|assumption|omega)) (E.s9 r B))
  | refine Yoa TSZ.h rfl rfl rfl E.g10 (fun w r _ B=>h w r E.g10 (by first|exact Yg g r (by first|assumption|omega)|exact Yn g r (by first|assumption|omega)) (E.s10 r B))
  | refine Xwb TSZ.h rfl rfl rfl E.g10 (fun w r _ B=>h w r E.g10 (by first|exact Yg g r (by first|assumption|omega)|exact Yn g r (by first|assumption|omega)) (E.s10 r B))
  | refine Yoa TSZ.h rfl rfl rfl E.g11 (fun w r _ B=>h w r E.g11 (by first|exact Yg g r (by first|assumption|omega)|exact Yn g r (by first|assumption|omega)) (E.s11 r B))
  | refine Xwb TSZ.h rfl rfl rfl E.g11 (fun w r _ B=>h w r E.g11 (by first|exact Yg g r (by first|assumption|omega)|exact Yn g r (by first|assumption|omega)) (E.s11 r B))
  | refine Yoa TSZ.h rfl rfl rfl E.g12 (fun w r _ B=>h w r E.g12 (by first|exact Yg g r (by first|assumption|omega)|exact Yn g r (by first|assumption|omega)) (E.s12 r B))
  | refine Xwb TSZ.h rfl rfl rfl E.g12 (fun w r _ B=>h w r E.g12 (by first|exact Yg g r (by first|assumption|omega)|exact Yn g r (by first|assumption|omega)) (E.s12 r B))):p:=k h
theorem Ua{p q:Prop}(h:p)(k:p→q:=by exact fun h=>h.keep ga Os):q:=k h
theorem Uc{p q:Prop}(h:p)(k:p→q:=by exact fun h=>h.keep ga Ca rfl rfl):q:=k h
theorem Ud{p q:Prop}(h:p)(k:p→q:=by exact fun h=>h.keep ga (fun k hk _ e=>by injection e with e;omega)):q:=k h
theorem Ui{p q:Prop}(h:p)(k:p→q:=by exact fun h=>h.grow ga.g):q:=k h
theorem Uj{p q:Prop}(h:p)(k:p→q:=by exact fun h=>h.new ga):q:=k h
theorem Uk{p q:Prop}(h:p)(k:p→q:=by exact fun h=>h.grow ga):q:=k h
end Go.Rk
namespace Go.Rk
open Go.Proofs
open Go
theorem bsimp:True:=trivial
def letterB(c:Int):Bool:=(decide (97≤c)&&decide (c≤122) || decide (65≤c)&&decide (c≤90)) || decide (c=95)
def digitB(c:Int):Bool:=decide (48≤c)&&decide (c≤57)
theorem Yec(c:Int)(w:Aa):Ret PP 178 #[.int .u8 c] w fun v w'=>v = .bool (letterB c)∧G w w':=by
 have g:=G.refl w;refine WK 21 [0] Tryz.func178 ?_;refine RTN ?_;exact ⟨rfl,g⟩
theorem Vhc(c:Int)(w:Aa):Ret PP 180 #[.int .u8 c] w fun v w'=>v = .bool (digitB c)∧G w w':=by
 have g:=G.refl w;refine WK 9 [0] Tryz.func180 ?_;refine RTN ?_;exact ⟨rfl,g⟩
theorem Uve(c:Int)(w:Aa):Ret PP 177 #[.int .u8 c] w fun v w'=>v = .bool (!decide (c=10))∧G w w':=by
 have g:=G.refl w;refine WK 5 [0] Tryz.func177 ?_;refine RTN ?_;exact ⟨rfl,g⟩
theorem Uwe(c:Int)(w:Aa):Ret PP 179 #[.int .u8 c] w fun v w'=>v = .bool (letterB c || digitB c)∧G w w':=by
 have g:=G.refl w;refine WK 9 [0] Tryz.func179 ?_;refine AU ?_;refine CP (Yec _ _) (fun w4 g4=>?_);have g:=g.trans g4;refine AU ?_;refine CG (fun hc=>Vhc _ _) (fun w7 g7=>?_);have g:=g.trans g7;refine RTN ?_;exact ⟨rfl,g⟩
def kws:List (List UInt8):=[[116,121,112,101],[115,116,114,117,99,116],[118,97,114],[102,117,110,99],[105,102],[101,108,115,101],[102,111,114],[114,101,116,117,114,110],[103,111],[100,101,102,101,114],[115,101,108,101,99,116],[99,97,115,101],[100,101,102,97,117,108,116],[99,104,97,110],[110,101,119],[109,97,107,101],[108,101,110],[116,114,117,101],[102,97,108,115,101],[110,105,108],[112,114,105,110,116],[99,108,111,115,101],[105,110,116],[98,111,111,108],[109,117,116,101,120],[114,119,109,117,116,101,120],[103,114,111,117,112],[111,110,99,101],[97,116,111,109,105,99]]
def endw:List (List UInt8):=[[116,114,117,101],[102,97,108,115,101],[110,105,108],[114,101,116,117,114,110],[105,110,116],[98,111,111,108],[109,117,116,101,120],[114,119,109,117,116,101,120],[103,114,111,117,112],[111,110,99,101],[97,116,111,109,105,99],[41],[93],[125]]
def inB(l:List (List UInt8))(s:List UInt8):Bool:=l.any fun k=>decide (s=k)
theorem Usd(s:List UInt8)(w:Aa):Ret PP 181 #[Str s] w fun v w'=>v = .bool (inB kws s)∧G w w':=by
 have g:=G.refl w;refine WK 34 [0] Tryz.func181 ?_;refine AU ?_;refine' OR [2] (fun hb1=>?y1) (kq ?n1)
 case y1 =>
  refine AU ?_;refine' OR [2] (fun hb2=>?y2) knr
  case y2 =>
   refine AU ?_;refine' OR [2] (fun hb3=>?y3) knr
   case y3 =>
    refine AU ?_;refine' OR [2] (fun hb4=>?y4) knr
    case y4 =>
     refine AU ?_;refine' OR [2] (fun hb5=>?y5) knr
     case y5 =>
      refine AU ?_;refine' OR [2] (fun hb6=>?y6) knr
      case y6 =>
       refine AU ?_;refine' OR [2] (fun hb7=>?y7) knr
       case y7 =>
        refine AU ?_;refine' OR [2] (fun hb8=>?y8) knr
        case y8 =>
         refine AU ?_;refine' OR [2] (fun hb9=>?y9) knr
         case y9 =>
          refine AU ?_;refine' OR [2] (fun hb10=>?y10) knr
          case y10 =>
           refine AU ?_;refine' OR [2] (fun hb11=>?y11) knr
           case y11 =>
            refine AU ?_;refine' OR [2] (fun hb12=>?y12) knr
            case y12 =>
             refine AU ?_;refine' OR [2] (fun hb13=>?y13) knr
             case y13 =>
              refine AU ?_;refine' OR [2] (fun hb14=>?y14) knr
              case y14 =>
               refine AU ?_;refine' OR [2] (fun hb15=>?y15) knr
               case y15 =>
                refine AU ?_;refine' OR [2] (fun hb16=>?y16) knr
                case y16 =>
                 refine AU ?_;refine' OR [2] (fun hb17=>?y17) knr
                 case y17 =>
                  refine AU ?_;refine' OR [2] (fun hb18=>?y18) knr
                  case y18 =>
                   refine AU ?_;refine' OR [2] (fun hb19=>?y19) knr
                   case y19 =>
                    refine AU ?_;refine' OR [2] (fun hb20=>?y20) knr
                    case y20 =>
                     refine AU ?_;refine' OR [2] (fun hb21=>?y21) knr
                     case y21 =>
                      refine AU ?_;refine' OR [2] (fun hb22=>?y22) knr
                      case y22 =>
                       refine AU ?_;refine' OR [2] (fun hb23=>?y23) knr
                       case y23 =>
                        refine AU ?_;refine' OR [2] (fun hb24=>?y24) knr
                        case y24 =>
                         refine AU ?_;refine' OR [2] (fun hb25=>?y25) knr
                         case y25 =>
                          refine AU ?_;refine' OR [2] (fun hb26=>?y26) knr
                          case y26 =>
                           refine AU ?_;refine' OR [2] (fun hb27=>?y27) knr
                           case y27 =>
                            refine AU ?_;refine' OR [2] (fun hb28=>?y28) knr
                            case y28 =>
                             refine AU ?_;refine SK [4,2] ?_;exact Ze knr
 case n1 =>
  refine IF (fun h29=>?_) fun h29=>?_;(try simp only [bsimp] at h29);refine RTN ?_;refine ⟨?_,g⟩;simp only [inB,kws,Aoa,Apa,Aja];rw [h29];refine RTN ?_;refine ⟨?_,g⟩;simp only [inB,kws,Aoa,Apa,Aja];rw [h29]
theorem Wbe(s:List UInt8)(w:Aa):Ret PP 185 #[Str s] w fun v w'=>v = .bool (inB endw s)∧G w w':=by
 have g:=G.refl w;refine WK 19 [0] Tryz.func185 ?_;refine AU ?_;refine' OR [2] (fun hb1=>?y1) (kq ?n1)
 case y1 =>
  refine AU ?_;refine' OR [2] (fun hb2=>?y2) knr
  case y2 =>
   refine AU ?_;refine' OR [2] (fun hb3=>?y3) knr
   case y3 =>
    refine AU ?_;refine' OR [2] (fun hb4=>?y4) knr
    case y4 =>
     refine AU ?_;refine' OR [2] (fun hb5=>?y5) knr
     case y5 =>
      refine AU ?_;refine' OR [2] (fun hb6=>?y6) knr
      case y6 =>
       refine AU ?_;refine' OR [2] (fun hb7=>?y7) knr
       case y7 =>
        refine AU ?_;refine' OR [2] (fun hb8=>?y8) knr
        case y8 =>
         refine AU ?_;refine' OR [2] (fun hb9=>?y9) knr
         case y9 =>
          refine AU ?_;refine' OR [2] (fun hb10=>?y10) knr
          case y10 =>
           refine AU ?_;refine' OR [2] (fun hb11=>?y11) knr
           case y11 =>
            refine AU ?_;refine' OR [2] (fun hb12=>?y12) knr
            case y12 =>
             refine AU ?_;refine' OR [2] (fun hb13=>?y13) knr
             case y13 =>
              refine AU ?_;refine SK [4,2] ?_;exact Ze knr
 case n1 =>
  refine IF (fun h14=>?_) fun h14=>?_;(try simp only [bsimp] at h14);refine RTN ?_;refine ⟨?_,g⟩;simp only [inB,endw,Aoa,Apa,Aja];rw [h14];refine RTN ?_;refine ⟨?_,g⟩;simp only [inB,endw,Aoa,Apa,Aja];rw [h14]
theorem Xmc(s:List UInt8)(w:Aa):Ret PP 95 #[Str s] w fun v w'=>v = .bool (inB kws s)∧G w w':=by
 have g:=G.refl w;refine WK 34 [0] Tryz.func95 ?_;refine AU ?_;refine' OR [2] (fun hb1=>?y1) (kq ?n1)
 case y1 =>
  refine AU ?_;refine' OR [2] (fun hb2=>?y2) knr
  case y2 =>
   refine AU ?_;refine' OR [2] (fun hb3=>?y3) knr
   case y3 =>
    refine AU ?_;refine' OR [2] (fun hb4=>?y4) knr
    case y4 =>
     refine AU ?_;refine' OR [2] (fun hb5=>?y5) knr
     case y5 =>
      refine AU ?_;refine' OR [2] (fun hb6=>?y6) knr
      case y6 =>
       refine AU ?_;refine' OR [2] (fun hb7=>?y7) knr
       case y7 =>
        refine AU ?_;refine' OR [2] (fun hb8=>?y8) knr
        case y8 =>
         refine AU ?_;refine' OR [2] (fun hb9=>?y9) knr
         case y9 =>
          refine AU ?_;refine' OR [2] (fun hb10=>?y10) knr
          case y10 =>
           refine AU ?_;refine' OR [2] (fun hb11=>?y11) knr
           case y11 =>
            refine AU ?_;refine' OR [2] (fun hb12=>?y12) knr
            case y12 =>
             refine AU ?_;refine' OR [2] (fun hb13=>?y13) knr
             case y13 =>
              refine AU ?_;refine' OR [2] (fun hb14=>?y14) knr
              case y14 =>
               refine AU ?_;refine' OR [2] (fun hb15=>?y15) knr
               case y15 =>
                refine AU ?_;refine' OR [2] (fun hb16=>?y16) knr
                case y16 =>
                 refine AU ?_;refine' OR [2] (fun hb17=>?y17) knr
                 case y17 =>
                  refine AU ?_;refine' OR [2] (fun hb18=>?y18) knr
                  case y18 =>
                   refine AU ?_;refine' OR [2] (fun hb19=>?y19) knr
                   case y19 =>
                    refine AU ?_;refine' OR [2] (fun hb20=>?y20) knr
                    case y20 =>
                     refine AU ?_;refine' OR [2] (fun hb21=>?y21) knr
                     case y21 =>
                      refine AU ?_;refine' OR [2] (fun hb22=>?y22) knr
                      case y22 =>
                       refine AU ?_;refine' OR [2] (fun hb23=>?y23) knr
                       case y23 =>
                        refine AU ?_;refine' OR [2] (fun hb24=>?y24) knr
                        case y24 =>
                         refine AU ?_;refine' OR [2] (fun hb25=>?y25) knr
                         case y25 =>
                          refine AU ?_;refine' OR [2] (fun hb26=>?y26) knr
                          case y26 =>
                           refine AU ?_;refine' OR [2] (fun hb27=>?y27) knr
                           case y27 =>
                            refine AU ?_;refine' OR [2] (fun hb28=>?y28) knr
                            case y28 =>
                             refine AU ?_;refine SK [4,2] ?_;exact Ze knr
 case n1 =>
  refine IF (fun h29=>?_) fun h29=>?_;(try simp only [bsimp] at h29);refine RTN ?_;refine ⟨?_,g⟩;simp only [inB,kws,Aoa,Apa,Aja];rw [h29];refine RTN ?_;refine ⟨?_,g⟩;simp only [inB,kws,Aoa,Apa,Aja];rw [h29]
end Go.Rk
namespace Go.Rk
open Go.Proofs
open Go Go.RowKit
def preB(p s:List UInt8):Bool:=decide (p.length≤s.length)&&decide (s.take p.length=p)
theorem Zwd(s p:List UInt8)(w:Aa):Ret PP 186 #[Str s,Str p] w fun v w'=>v = .bool (preB p s)∧G w w':=by
 have g:=G.refl w;refine WK 18 [0,1] Tryz.func186 ?_;refine AU ?_;refine Zv J J J (fun _=>Qmc Yq (Zz J id) (Zz J id) (fun hc=>⟨O,by have:=Wmg hc.2;omega⟩)) ?_;refine RTN ?_;refine ⟨?_,g⟩;unfold preB;simp
theorem Upb(s p:List UInt8)(w:Aa):Ret PP 175 #[Str s,Str p] w fun v w'=>v = .bool (preB p s)∧G w w':=by
 have g:=G.refl w;refine WK 8 [0,1] Tryz.func175 ?_;refine AU ?_;refine CP (Zwd _ _ _) (fun w7 g7=>?_);have g:=g.trans g7;refine RTN ?_;exact ⟨rfl,g⟩
structure Tok where
  kind:Int
  text:List UInt8
  pos:Int
def tokCells(t:Tok):List Ga:=[.int .i64 t.kind,Str t.text,.int .i64 t.pos]
def toksCells(l:List Tok):List Ga:=l.flatMap tokCells
theorem Yab(l:List Tok):(toksCells l).length=l.length*3:=by
 unfold toksCells
 induction l with
 | nil=>rfl
 | cons t l ih=>rw [Aqa,Ala,ih];simp [tokCells];omega
theorem Zna(l:List Tok)(t:Tok):toksCells (l++[t])=toksCells l++tokCells t:=by simp [toksCells]
def Scn(base b:Nat)(s:List UInt8)(p:Nat)(ts cs:List Tok)(w:Aa):Prop :=
 ∃ ta tc ca cc,Blk w b 127 [Str s,.int .i64 p,.slice ta ts.length tc,.slice ca cs.length cc]∧base≤b∧w.ownsRow base 94 3 (.slice ta ts.length tc) ts.length (toksCells ts)∧
  w.ownsRow base 94 3 (.slice ca cs.length cc) cs.length (toksCells cs)∧(Ia ta ts.length tc).ownBlock≠some b∧(Ia ca cs.length cc).ownBlock≠some b∧
  (∀ k,(Ia ta ts.length tc).ownBlock=some k→(Ia ca cs.length cc).ownBlock≠some k)∧ts.length≤p∧cs.length≤p∧p≤s.length∧s.length≤20000
theorem Wna{w:Aa}{base:Nat}{e:Ba}{z:Nat}{tv tv' cv:Ga}{m:Nat}{xs:List Ga}(hc:w.ownsRow base e z cv m xs)(n3:∀ k,tv.ownBlock=some k→cv.ownBlock≠some k)
 (hat:tv'.ownBlock=tv.ownBlock∨tv'.ownBlock=some w.heap.size):∀ k,tv'.ownBlock=some k→cv.ownBlock≠some k:=by
 intro k hk;rcases hat with e|e;exact n3 k (e▸hk);rw [e] at hk;injection hk with hk;subst hk;exact Uld hc (Ada _)
theorem Yfc{w:Aa}{b:Nat}{tv tv':Ga}(hb:b<w.heap.size)(n1:tv.ownBlock≠some b)(hat:tv'.ownBlock=tv.ownBlock∨tv'.ownBlock=some w.heap.size):tv'.ownBlock≠some b:=by
 rcases hat with e|e <;> rw [e]
 exact n1;intro h;injection h with h;omega
theorem Ybb{w w':Aa}{base:Nat}{e:Ba}{z:Nat}{tv cv:Ga}{m:Nat}{xs:List Ga}(hc:w.ownsRow base e z cv m xs)(n3:∀ k,tv.ownBlock=some k→cv.ownBlock≠some k)(hg:w.grownBy w' tv.ownBlock):w'.ownsRow base e z cv m xs :=
 Yo hc hg (by rcases hq:cv.ownBlock with _|k;exact .inl rfl;exact .inr (fun he=>n3 k he.symm hq))
theorem Zxd(base b:Nat)(s:List UInt8)(p:Nat)(ts cs:List Tok)(kind:Int)(size:Nat)(w:Aa)(hs:Scn base b s p ts cs w)(h1:1≤size)(h2:p+size≤s.length) :
 Ret PP 182 #[.pointer (some ⟨b,0,none⟩),.int .i64 kind,.int .i64 size] w fun v w'=>v = .tuple #[]∧Scn base b s (p+size) (ts++[⟨kind,(s.drop p).take size,p⟩]) cs w'∧Below base w w':=by
 obtain ⟨ta,tc,ca,cc,hB,hb0,ht,hc,n1,n2,n3,k1,k2,k3,k4⟩:=hs;have hb:Below base w w:=Below.refl _ _;have hlt:=hB.lt;refine Ji (m:=44) Tryz.func182 J J [(0,True,_),(1,True,_),(2,True,_)] (Za J (Za J (Za J (Zo _)))) ?_;refine Zn (Xe [3,3,3,3,0,3,3,3,3,0,3,3,3,0,3,3,3,0,3,3,3,3,3,3,0,3,1,2,3,3,2] [true,true,true,true,true,true,true,true,true,true,true,true,true,true,true,true,true,true,true,true,true,true,true,true,true,true,true,true,true,true,true] [0,0,2,6,14,0,0,64,192,448,0,1024,3072,7168,0,16384,49152,114688,0,507904,1048512,0,2097152,6291456,14680064,33554400,67108832,134217726,268435455,536870911,1073741823] mix KR ?_);have hb:=hb.drew;have hB:Blk w.drew _ _ _:=hB;have ht:=Xsd ht;have hc:=Xsd hc;refine Zx J (Zx J (Un J (Xm Ja J (Xr Vf J (hB.at_ J) (Zx J (Zx J (Un J (Xm Vi J (Xr Xb J (hB.at_ J) (Zx J (Un J (Xm Yw J (Xr Yk J (hB.at_ J) (Zx J (Un J (?_))))))))))))))));refine Xm Yw J (Xr Yk J (hB.at_ J) (Zx J (Vta J J O (Zs J (fun _=>Ypb Yq (Zc J) (Zc J) (Zc J) (fun _=>O)) (Zx J (Un J (Xm Yw J (Xr Yk J (hB.at_ J) (Zsa Xu Qi (pqc J (pqc J (pqc J pq0))) J J (Yf _ J Yv Xu (pqc J pq0) J J ?_))))))))));intro b32 w32 N32;have hb:=hb.trans (Xba N32.g (by show base≤w.heap.size;omega));have hB:=hB.grow N32.g;have ht:=Xk ht N32.g;have hc:=Xk hc N32.g;have hlt:=hB.lt;have E:=(Zla _).new N32;refine Qb J Yv Xu J Od (Zc J) ht (Zc J) J N32.blk.row J (by simp only [maxLen];omega) O O ?_;intro ta' tc' w33 ht' hg hat;have hb:=Jx hb hg O (fun k hk=>(ht.lt k hk).1);have hB:=hB.keep hg (Ne.symm n1);have n3':=Wna hc n3 hat;have hc:=Ybb hc n3 hg;have n3:=n3'
 have n1:=Yfc hlt n1 hat;refine AU ?_;refine Xo J Xwa (Zc J) (Zc J) J J hB J J ?_;intro w34 hg2 hz2 hB;have hb:=Jx hb hg2 (by have:=hb.size;omega) (fun k hk=>by injection hk with hk;omega);have ht':=Yo ht' hg2 (.inr n1);have hc:=Yo hc hg2 (.inr n2);refine AU ?_;refine Xo J Wz (Zc J) (Zc J) J J hB J J ?_;intro w44 hg3 hz3 hB;have hb:=Jx hb hg3 (by have:=hb.size;omega) (fun k hk=>by injection hk with hk;omega);have ht':=Yo ht' hg3 (.inr n1);have hc:=Yo hc hg3 (.inr n2);refine Ze (Yia J ?_);have e:((p:Int)+size).toNat-(p:Int).toNat=size:=by omega
 rw [e] at ht';have hl:(ts++[(⟨kind,(s.drop p).take size,p⟩:Tok)]).length=ts.length+1:=by simp
 refine ⟨rfl,⟨ta',tc',ca,cc,?_,hb0,?_,hc,?_,n2,?_,?_,O,h2,k4⟩,hb⟩ <;> rw [hl]
 exact hB;rw [Zna];exact ht';exact n1;exact n3;omega
structure SA (base b:Nat) (s:List UInt8) (p:Nat) (ts cs:List Tok) (ta:Option Addr) (tc:Nat) (ca:Option Addr) (cc:Nat) (w:Aa):Prop where
  B:Blk w b 127 [Str s,.int .i64 p,.slice ta ts.length tc,.slice ca cs.length cc]
  hb:base≤b
  ht:w.ownsRow base 94 3 (.slice ta ts.length tc) ts.length (toksCells ts)
  hc:w.ownsRow base 94 3 (.slice ca cs.length cc) cs.length (toksCells cs)
  n1:(Ia ta ts.length tc).ownBlock≠some b
  n2:(Ia ca cs.length cc).ownBlock≠some b
  n3:∀ k,(Ia ta ts.length tc).ownBlock=some k→(Ia ca cs.length cc).ownBlock≠some k
theorem SA.grow{base b:Nat}{s:List UInt8}{p:Nat}{ts cs:List Tok}{ta:Option Addr}{tc:Nat}{ca:Option Addr}{cc:Nat}{w w1:Aa}(h:SA base b s p ts cs ta tc ca cc w)(g:G w w1):SA base b s p ts cs ta tc ca cc w1 :=
 { h with B:=h.B.grow g,ht:=Xk h.ht g,hc:=Xk h.hc g }
theorem SA.scn{base b:Nat}{s:List UInt8}{p:Nat}{ts cs:List Tok}{ta:Option Addr}{tc:Nat}{ca:Option Addr}{cc:Nat}{w:Aa}(h:SA base b s p ts cs ta tc ca cc w)(k1:ts.length≤p)(k2:cs.length≤p)(k3:p≤s.length)(k4:s.length≤20000):Scn base b s p ts cs w :=
 ⟨ta,tc,ca,cc,h.B,h.hb,h.ht,h.hc,h.n1,h.n2,h.n3,k1,k2,k3,k4⟩
theorem Scn.sa{base b:Nat}{s:List UInt8}{p:Nat}{ts cs:List Tok}{w:Aa}(h:Scn base b s p ts cs w):∃ ta tc ca cc,SA base b s p ts cs ta tc ca cc w∧ts.length≤p∧cs.length≤p∧p≤s.length∧s.length≤20000:=by
 obtain ⟨ta,tc,ca,cc,hB,hb0,ht,hc,n1,n2,n3,k1,k2,k3,k4⟩:=h;exact ⟨ta,tc,ca,cc,⟨hB,hb0,ht,hc,n1,n2,n3⟩,k1,k2,k3,k4⟩
theorem SA.base_le{base b:Nat}{s:List UInt8}{p:Nat}{ts cs:List Tok}{ta:Option Addr}{tc:Nat}{ca:Option Addr}{cc:Nat}{w:Aa}(h:SA base b s p ts cs ta tc ca cc w):base≤w.heap.size:=by have:=h.hb;have:=h.B.lt;omega
theorem SA.setp{base b:Nat}{s:List UInt8}{p q:Nat}{ts cs:List Tok}{ta:Option Addr}{tc:Nat}{ca:Option Addr}{cc:Nat}{w w1:Aa}(h:SA base b s p ts cs ta tc ca cc w)(hg:w.grownBy w1 (some b))
  (hB:Blk w1 b 127 [Str s,.int .i64 q,.slice ta ts.length tc,.slice ca cs.length cc]):SA base b s q ts cs ta tc ca cc w1 :=
 { h with B:=hB,ht:=Yo h.ht hg (.inr h.n1),hc:=Yo h.hc hg (.inr h.n2) }
theorem Wjb{base b:Nat}{a wk w1 w2:Aa}(hb:Below base a wk)(g:G wk w1)(hg:w1.grownBy w2 (some b))(hz:base≤wk.heap.size)(h:base≤b):Below base a w2:=by
 have:=g.size;exact Jx (hb.trans (Xba g hz)) hg O (fun k hk=>by injection hk with hk;omega)
theorem Scn.grow{base b:Nat}{s:List UInt8}{p:Nat}{ts cs:List Tok}{w w1:Aa}(h:Scn base b s p ts cs w)(g:G w w1):Scn base b s p ts cs w1:=by
 obtain ⟨ta,tc,ca,cc,h,k1,k2,k3,k4⟩:=h.sa;exact (h.grow g).scn k1 k2 k3 k4
theorem SA.putT{base b:Nat}{s:List UInt8}{p:Nat}{ts cs:List Tok}{ta:Option Addr}{tc:Nat}{ca:Option Addr}{cc:Nat}{w w1 w2:Aa}{ta':Option Addr}{tc':Nat}{t:Tok}(h:SA base b s p ts cs ta tc ca cc w)
 (h1:w1.ownsRow base 94 3 (.slice ta' (ts.length+1) tc') (ts.length+1) (toksCells ts++tokCells t)) (hg:w.grownBy w1 (Ia ta ts.length tc).ownBlock)
 (hat:(Ia ta' (ts.length+1) tc').ownBlock=(Ia ta ts.length tc).ownBlock∨(Ia ta' (ts.length+1) tc').ownBlock=some w.heap.size) (hg2:w1.grownBy w2 (some b))
 (hB:Blk w2 b 127 [Str s,.int .i64 p,.slice ta' (ts.length+1) tc',.slice ca cs.length cc]):SA base b s p (ts++[t]) cs ta' tc' ca cc w2:=by
 have n1:=Yfc h.B.lt h.n1 hat;have hl:(ts++[t]).length=ts.length+1:=by simp
 have hc:=Ybb h.hc h.n3 hg;refine ⟨by rw [hl];exact hB,h.hb,?_,Yo hc hg2 (.inr h.n2),by rw [hl];exact n1,h.n2,?_⟩;rw [hl,Zna];exact Yo h1 hg2 (.inr n1);rw [hl];exact Wna h.hc h.n3 hat
theorem SA.putC{base b:Nat}{s:List UInt8}{p:Nat}{ts cs:List Tok}{ta:Option Addr}{tc:Nat}{ca:Option Addr}{cc:Nat}{w w1 w2:Aa}{ca':Option Addr}{cc':Nat}{t:Tok}(h:SA base b s p ts cs ta tc ca cc w)
 (h1:w1.ownsRow base 94 3 (.slice ca' (cs.length+1) cc') (cs.length+1) (toksCells cs++tokCells t)) (hg:w.grownBy w1 (Ia ca cs.length cc).ownBlock)
 (hat:(Ia ca' (cs.length+1) cc').ownBlock=(Ia ca cs.length cc).ownBlock∨(Ia ca' (cs.length+1) cc').ownBlock=some w.heap.size) (hg2:w1.grownBy w2 (some b))
 (hB:Blk w2 b 127 [Str s,.int .i64 p,.slice ta ts.length tc,.slice ca' (cs.length+1) cc']):SA base b s p ts (cs++[t]) ta tc ca' cc' w2:=by
 have n2:=Yfc h.B.lt h.n2 hat;have hl:(cs++[t]).length=cs.length+1:=by simp
 have n3':∀ k,(Ia ca cs.length cc).ownBlock=some k→(Ia ta ts.length tc).ownBlock≠some k:=fun k hk he=>h.n3 k he hk;have ht:=Ybb h.ht n3' hg;refine ⟨by rw [hl];exact hB,h.hb,Yo ht hg2 (.inr h.n1),?_,h.n1,by rw [hl];exact n2,?_⟩;rw [hl,Zna];exact Yo h1 hg2 (.inr n2);rw [hl];exact fun k hk he=>Wna h.ht n3' hat k he hk
def endsT(t:Tok):Bool:=(decide (t.kind=1) || decide (t.kind=2)) || inB endw t.text
def nlTs(p:Nat)(ts:List Tok):List Tok:=match ts.getLast? with
 | some t=>if endsT t=true then ts++[⟨4,[59],p⟩] else ts
 | none=>ts
theorem Wdd{w:Aa}{b:Nat}{ts0:List Tok}{t:Tok}(h:RowAt w b 0 (toksCells (ts0++[t]))):RowAt w b (0+(((ts0++[t]).length:Nat)-1:Int).toNat*3) (tokCells t):=by
 have e:(((ts0++[t]).length:Nat)-1:Int).toNat=ts0.length:=by simp
 have k:=h.part (ts0.length*3) 3;rw [e]
 have e2:((toksCells (ts0++[t])).drop (ts0.length*3)).take 3=tokCells t:=by
  rw [Zna,List.drop_append_of_le_length (by rw [Yab];exact Ada _),Bja (by rw [Yab];exact Ada _)];rfl
 rw [e2] at k;exact k
theorem Utd(base b:Nat)(s:List UInt8)(p:Nat)(ts cs:List Tok)(w:Aa)(hs:Scn base b s p ts cs w)(h2:p<s.length) :
 Ret PP 174 #[.pointer (some ⟨b,0,none⟩)] w fun v w'=>v = .tuple #[]∧Scn base b s (p+1) (nlTs p ts) cs w'∧Below base w w':=by
 obtain ⟨ta,tc,ca,cc,hs,k1,k2,k3,k4⟩:=hs.sa;have g:=G.refl w;have hb:Below base w w:=Below.refl _ _;refine WK 53 [0] Tryz.func174 ?_;refine Zn (Zn (Zu (Zx J (Un J (Xm Ja J (Xr Vf J (by first|exact (hs.grow g).B.at_ J) (Waa Yv J (Xc J (Ze (kq (Zn (Zu (Zx J (Uje J J (Ze (kq (Qk J (fun h1=>?_) (fun h1=>?_))))))))))))))))));have hp:0<ts.length:=by simp only [Wkg] at h1;omega
 obtain ⟨ts0,t,ets⟩:∃ ts0 t,ts=ts0++[t]:=by
  rcases List.eq_nil_or_concat ts with e|⟨l,x,e⟩;rw [e] at hp;cases hp;exact ⟨l,x,by simpa using e⟩
 subst ets;obtain ⟨bt,ct,ev,_,hrow,_⟩:=Vna hs.ht hp;injection ev with e1 e2 e3;subst e1;have hrow':=Wdd hrow;have hne:nlTs p (ts0++[t])=if endsT t=true then (ts0++[t])++[⟨4,[59],p⟩] else ts0++[t]:=by simp [nlTs]
 refine Zn (Zu (Zx J (Un J (Xm Ja J (Xr Vf J (by first|exact (hs.grow g).B.at_ J) (Zx J (Zs J (fun _=>Xja (Zc J) Xh (fun _=>O)) (Qab Yv J J O (Vx Wo J J (hrow') (AM fun _ _ _ _ g E=>?_))))))))));refine AS fun _ _ _ g E=>?_;refine AU ?_;refine CG (fun hc=>Wbe _ _) (fun w30 g30=>?_);have g:=g.trans g30;replace E:=E.grow g30;refine Zs J (fun _=>Wb (Zc J) (Zz J id)) (Ze (kq (Qk J (fun h2=>?_) (fun h2=>?_))));rw [if_pos (show endsT t=true from h2)] at hne;have hl:(nlTs p (ts0++[t])).length≤p+1:=by rw [hne,Ala];exact Nat.succ_le_succ k1
 refine Xe [3,3,3,3,0,3,3,3,0,3,1,2,3,3,2] [true,true,true,true,true,true,true,true,true,true,true,true,true,true,true] [0,0,2,6,14,0,32,96,224,480,992,2046,4095,8191,16383] mix KR ?_;have g:=gdr g;replace E:=E.dr;refine Zx J (Zx J (Un J (Xm Ja J (Xr Vf J (by first|exact (hs.grow g).B.at_ J|exact E.g0.at_ J|exact E.g0.row) (Zx J (Un J (Xm Yw J (Xr Yk J (by first|exact (hs.grow g).B.at_ J|exact E.g0.at_ J|exact E.g0.row) (Zsa Xu Qi (pqc J (pqc J (pqc J pq0))) J J (CN fun _ _ N42 _ g E=>?_))))))))));have hb:=hb.trans (Xba g hs.base_le);have hs:=hs.grow g;have hz0:=hs.base_le;refine Qb J Yv Xu J Od (Zc J) hs.ht (Zc J) J N42.blk.row J (by simp only [maxLen];omega) O O ?_;intro ta' tc' w43 ht' hg43 hat;have hB:=hs.B.keep hg43 (Ne.symm hs.n1);have hz:=hg43.size;refine AU ?_;refine Xo J Xwa (Zc J) (Zc J) J J hB J J ?_;intro w44 hg44 hz44 hB;have hb:=Jx (Jx hb hg43 hs.base_le (fun k hk=>(hs.ht.lt k hk).1)) hg44 (by have:=hs.base_le;omega) (fun k hk=>by injection hk with hk;have:=hs.hb;omega);have hs:=hs.putT (t:=⟨4,[59],p⟩) ht' hg43 hat hg44 hB;have g:=G.refl w44;refine AU ?_;refine Xo J Wz (Zc J) (Zc J) J J (hs.grow g).B J J ?_;intro w52 hg52 hz52 hB;have hb:=Wjb hb g hg52 hs.base_le hs.hb;have hs:=(hs.grow g).setp (q:=p+1) hg52 hB;refine Ze (Yia J ?_);refine ⟨rfl,?_,hb⟩;rw [hne] at hl ⊢;exact hs.scn hl O O k4;rw [if_neg (by intro h;rw [endsT,h2] at h;cases h)] at hne;have hl:(nlTs p (ts0++[t])).length≤p+1:=by rw [hne];omega
 refine AU ?_;refine Xo J Wz (Zc J) (Zc J) J J (hs.grow g).B J J ?_;intro w52 hg52 hz52 hB;have hb:=Wjb hb g hg52 hs.base_le hs.hb;have hs:=(hs.grow g).setp (q:=p+1) hg52 hB;refine Ze (Yia J ?_);refine ⟨rfl,?_,hb⟩;rw [hne] at hl ⊢;exact hs.scn hl O O k4;have hp:ts=[]:=List.eq_nil_of_length_eq_zero (by simp only [Wlg] at h1;omega);have hne:nlTs p ts=ts:=by rw [hp];rfl
 have hl:(nlTs p ts).length≤p+1:=by rw [hne];omega
 refine AU ?_;refine Xo J Wz (Zc J) (Zc J) J J (hs.grow g).B J J ?_;intro w52 hg52 hz52 hB;have hb:=Wjb hb g hg52 hs.base_le hs.hb;have hs:=(hs.grow g).setp (q:=p+1) hg52 hB;refine Ze (Yia J ?_);refine ⟨rfl,?_,hb⟩;rw [hne] at hl ⊢;exact hs.scn hl O O k4
def runN(q:Int→Bool):List UInt8→Nat
 | []=>0
 | c::l=>if q c.toNat=true then runN q l+1 else 0
theorem Ygc{q:Int→Bool}{s:List UInt8}{k:Nat}(h:k<s.length)(hq:q (s.getD k 0).toNat=true):runN q (s.drop k)=runN q (s.drop (k+1))+1:=by
 rw [Bka h,runN,if_pos (by simpa [Aea,Aca h] using hq)]
theorem Qqc{q:Int→Bool}{s:List UInt8}{k:Nat}(h:k<s.length→q (s.getD k 0).toNat=false):runN q (s.drop k)=0:=by
 by_cases hk:k<s.length;rw [Bka hk,runN,if_neg];have:=h hk;simp [Aea,Aca hk] at this;simp [this];rw [Bja O];rfl
theorem Wkf(q:Int→Bool)(l:List UInt8):runN q l≤l.length:=by
 induction l with
 | nil=>exact Ada _
 | cons c l ih=>rw [runN];split <;> simp <;> omega
theorem Uud(base b:Nat)(s:List UInt8)(p:Nat)(ts cs:List Tok)(w:Aa)(hs:Scn base b s p ts cs w)(f:Nat)(q:Int→Bool)(hgo:goFn PP f=true)(hf:∀ c w,Ret PP f #[.int .u8 c] w fun v w'=>v = .bool (q c)∧G w w') :
 Ret PP 176 #[.pointer (some ⟨b,0,none⟩),.func (.func f) #[] #[]] w fun v w'=>v = .int .i64 (runN q (s.drop p))∧G w w':=by
 obtain ⟨ta,tc,ca,cc,hs,k1,k2,k3,k4⟩:=hs.sa;have g:=G.refl w;refine WK 36 [0,1] Tryz.func176 ?_;refine AU ?_;refine Xva (fun (n:Nat) u=>p+n≤s.length∧runN q (s.drop p)=n+runN q (s.drop (p+n))∧G w u) (fun n=>[(0,True,.pointer (some ⟨b,0,none⟩)),(1,True,.func (.func f) #[] #[]),(5,True,.int .i64 n)]) (fun n=>s.length-n) 0 ⟨O,by simp,g⟩ (Za J (Za J (Za J (Zo _)))) ?_;rintro n u ⟨hn,he,g⟩;refine AU ?_;refine Xe [3,3,3,0,3,3,3,3,3,0,3,3,3,3,3,3,3,0,3,3,3,0,3,3,3,1,3] [true,true,true,true,true,true,true,true,true,true,true,true,true,true,true,true,true,true,true,true,true,true,true,true,true,true,true] [0,1,3,7,0,31,0,64,192,448,960,2047,4095,8191,8191,24575,57343,122879,8191,270335,794623,1843199,8191,8134655,16769023,33554431,67108863] mix KR ?_;have g:=gdr g;refine AU ?_;refine Zv J J J (fun _=>Qp Yq (Zz J id) (Zz J id) (fun hc=>by have:=Wmg hc.2;omega)) (Qa J J J (fun _=>(Yd hgo (Zz J id) (Yi (Zz J id) (Xj)) J)) (fun hc=>hf _ _) (fun w31 g31=>?_));have g:=g.trans g31;refine IF (fun h1=>?_) fun h1=>?_;simp only [Aka,Wkg] at h1;obtain ⟨h1,h2⟩:=h1;have e:((p:Int)+n).toNat=p+n:=by omega
 rw [e] at h2;have hst:=Ygc O h2;refine AU ?_;refine SK [0,1,5] ?_;refine Ze (fun a ha=>?_);exact ⟨n+1,ha,⟨O,by rw [he,hst,Nat.add_assoc p n 1];omega,g⟩,O⟩
 have hst:runN q (s.drop (p+n))=0:=Qqc fun hk=>by
  have e:((p:Int)+n).toNat=p+n:=by omega
  rw [e,Wig (by omega:(p:Int)+n<s.length),Ata] at h1;exact h1
 refine RTN ?_;refine ⟨?_,g⟩;rw [he,hst];rfl
end Go.Rk
namespace Go.Rk
open Go.Proofs
open Go Go.Shelf Go.RowKit
def Zyd:Go.Shelf.Ren:=⟨fun|174=>183|247=>187|245=>188|287=>189|279=>190|280=>191|281=>192|282=>193|321=>194|322=>195|316=>196|171=>198|205=>197|243=>199|246=>200|283=>201|284=>202|285=>203|286=>204|129=>206|317=>205|318=>207|319=>208|320=>209|337=>210|338=>211|n=>n,fun|9=>9|3=>3|2=>2|75=>146|85=>147|4=>4|167=>152|5=>5|53=>120|175=>153|46=>155|168=>156|37=>160|0=>0|210=>162|21=>21|127=>164|145=>167|143=>165|171=>169|173=>172|212=>176|51=>177|20=>20|213=>178|232=>181|233=>182|80=>92|n=>n,fun|15=>8|16=>9|17=>10|18=>11|19=>12|n=>n⟩
theorem Wed:Go.Proofs.LaysC.n174 PP Zyd:={
 mixed:=KR
 f129:=Tryz.func206.trans (congrArg some KR)
 f171:=Tryz.func198.trans (congrArg some KR)
 f174:=Tryz.func183.trans (congrArg some KR)
 f205:=Tryz.func197.trans (congrArg some KR)
 f243:=Tryz.func199.trans (congrArg some KR)
 f245:=Tryz.func188.trans (congrArg some KR)
 f246:=Tryz.func200.trans (congrArg some KR)
 f247:=Tryz.func187.trans (congrArg some KR)
 f279:=Tryz.func190.trans (congrArg some KR)
 f280:=Tryz.func191.trans (congrArg some KR)
 f281:=Tryz.func192.trans (congrArg some KR)
 f282:=Tryz.func193.trans (congrArg some KR)
 f283:=Tryz.func201.trans (congrArg some KR)
 f284:=Tryz.func202.trans (congrArg some KR)
 f285:=Tryz.func203.trans (congrArg some KR)
 f286:=Tryz.func204.trans (congrArg some KR)
 f287:=Tryz.func189.trans (congrArg some KR)
 f316:=Tryz.func196.trans (congrArg some KR)
 f317:=Tryz.func205.trans (congrArg some KR)
 f318:=Tryz.func207.trans (congrArg some KR)
 f319:=Tryz.func208.trans (congrArg some KR)
 f320:=Tryz.func209.trans (congrArg some KR)
 f321:=Tryz.func194.trans (congrArg some KR)
 f322:=Tryz.func195.trans (congrArg some KR)
 f337:=Tryz.func210.trans (congrArg some KR)
 f338:=Tryz.func211.trans (congrArg some KR)
 t0:=Tryz.underlying0
 a0:=Tryz.isAgg0
 z0:=Tryz.sizeOf0
 v0:=Tryz.zeroValue0
 t2:=Tryz.underlying2
 a2:=Tryz.isAgg2
 z2:=Tryz.sizeOf2
 v2:=Tryz.zeroValue2
 t3:=Tryz.underlying3
 a3:=Tryz.isAgg3
 z3:=Tryz.sizeOf3
 v3:=Tryz.zeroValue3
 t4:=Tryz.underlying4
 a4:=Tryz.isAgg4
 z4:=Tryz.sizeOf4
 v4:=Tryz.zeroValue4
 t5:=Tryz.underlying5
 a5:=Tryz.isAgg5
 z5:=Tryz.sizeOf5
 v5:=Tryz.zeroValue5
 t9:=Tryz.underlying9
 a9:=Tryz.isAgg9
 z9:=Tryz.sizeOf9
 v9:=Tryz.zeroValue9
 t20:=Tryz.underlying20
 a20:=Tryz.isAgg20
 z20:=Tryz.sizeOf20
 v20:=Tryz.zeroValue20
 t21:=Tryz.underlying21
 a21:=Tryz.isAgg21
 z21:=Tryz.sizeOf21
 v21:=Tryz.zeroValue21
 t37:=Tryz.underlying160
 a37:=Tryz.isAgg160
 z37:=Tryz.sizeOf160
 v37:=Tryz.zeroValue160
 t46:=Tryz.underlying155
 a46:=Tryz.isAgg155
 z46:=Tryz.sizeOf155
 v46:=Tryz.zeroValue155
 t51:=Tryz.underlying177
 a51:=Tryz.isAgg177
 z51:=Tryz.sizeOf177
 v51:=Tryz.zeroValue177
 t53:=Tryz.underlying120
 a53:=Tryz.isAgg120
 z53:=Tryz.sizeOf120
 v53:=Tryz.zeroValue120
 t75:=Tryz.underlying146
 a75:=Tryz.isAgg146
 z75:=Tryz.sizeOf146
 v75:=Tryz.zeroValue146
 t85:=Tryz.underlying147
 a85:=Tryz.isAgg147
 z85:=Tryz.sizeOf147
 v85:=Tryz.zeroValue147
 t127:=Tryz.underlying164
 a127:=Tryz.isAgg164
 z127:=Tryz.sizeOf164
 v127:=Tryz.zeroValue164
 t143:=Tryz.underlying165
 a143:=Tryz.isAgg165
 z143:=Tryz.sizeOf165
 v143:=Tryz.zeroValue165
 t145:=Tryz.underlying167
 a145:=Tryz.isAgg167
 z145:=Tryz.sizeOf167
 v145:=Tryz.zeroValue167
 t167:=Tryz.underlying152
 a167:=Tryz.isAgg152
 z167:=Tryz.sizeOf152
 v167:=Tryz.zeroValue152
 t168:=Tryz.underlying156
 a168:=Tryz.isAgg156
 z168:=Tryz.sizeOf156
 v168:=Tryz.zeroValue156
 t171:=Tryz.underlying169
 a171:=Tryz.isAgg169
 z171:=Tryz.sizeOf169
 v171:=Tryz.zeroValue169
 t173:=Tryz.underlying172
 a173:=Tryz.isAgg172
 z173:=Tryz.sizeOf172
 v173:=Tryz.zeroValue172
 t175:=Tryz.underlying153
 a175:=Tryz.isAgg153
 z175:=Tryz.sizeOf153
 v175:=Tryz.zeroValue153
 t210:=Tryz.underlying162
 a210:=Tryz.isAgg162
 z210:=Tryz.sizeOf162
 v210:=Tryz.zeroValue162
 t212:=Tryz.underlying176
 a212:=Tryz.isAgg176
 z212:=Tryz.sizeOf176
 v212:=Tryz.zeroValue176
 t213:=Tryz.underlying178
 a213:=Tryz.isAgg178
 z213:=Tryz.sizeOf178
 t232:=Tryz.underlying181
 a232:=Tryz.isAgg181
 z232:=Tryz.sizeOf181
 v232:=Tryz.zeroValue181
 t233:=Tryz.underlying182
 a233:=Tryz.isAgg182
 z233:=Tryz.sizeOf182
 v233:=Tryz.zeroValue182
 g15:=KR
 g16:=KR
 g17:=KR
 g18:=KR
 g19:=KR
 t80:=Tryz.underlying92
 a80:=Tryz.isAgg92
 z80:=Tryz.sizeOf92
 v80:=Tryz.zeroValue92
 i0:=KR
 i2:=KR
 i3:=KR
 i4:=KR
 i5:=KR
 i9:=KR
 i20:=KR
 i21:=KR
 i37:=KR
 i46:=KR
 i51:=KR
 i53:=KR
 i75:=KR
 i80:=KR
 i85:=KR
 i127:=KR
 i143:=KR
 i145:=KR
 i167:=KR
 i168:=KR
 i171:=KR
 i173:=KR
 i175:=KR
 i210:=KR
 i212:=KR
 i232:=KR
 i233:=KR
 m15:=KR
 m16:=KR
 m17:=KR
 m18:=KR
 m19:=KR
 c0:=KR
 c2:=KR
 c3:=KR
 c4:=KR
 c5:=KR
 c9:=KR
 c20:=KR
 c21:=KR
 c37:=KR
 c46:=KR
 c51:=KR
 c53:=KR
 c75:=KR
 c80:=KR
 c85:=KR
 c127:=KR
 c143:=KR
 c145:=KR
 c167:=KR
 c168:=KR
 c171:=KR
 c173:=KR
 c175:=KR
 c210:=KR
 c212:=KR
 c213:=KR
 c232:=KR
 c233:=by kernel_rfl }
def valN(a:Nat)(l:List UInt8):Nat:=l.foldl (fun a c=>a*10+(c.toNat-48)) a
def allD(l:List UInt8):Prop:=∀ c∈l,48≤c.toNat∧c.toNat≤57
theorem Ycb(a:Nat)(c:UInt8)(l:List UInt8):valN a (c::l)=valN (a*10+(c.toNat-48)) l:=List.foldl_cons ..
theorem Wlf(l:List UInt8):∀ a,a≤valN a l:=by
 induction l with
 | nil=>exact fun a=>Ada _
 | cons c l ih=>intro a;have:=ih (a*10+(c.toNat-48));rw [Ycb];omega
theorem Uqb(M:Nat)(hM:M=18446744073709551615):∀ (l:List UInt8) (a:Nat),allD l→Lib.parseUintM M a l=if l=[] then .ok a else if valN a l≤M then .ok (valN a l) else .range
 | [],a,_=>rfl
 | c::l,a,h=>by
  have hc:=h c (Awa ..);have ih:=Uqb M hM l (a*10+(c.toNat-48)) (fun x hx=>h x (Bla _ hx));have hge:=Wlf l (a*10+(c.toNat-48));rw [if_neg (by simp:¬ (c::l)=[]),Ycb];rw [Lib.parseUintM,if_pos hc];generalize hv:a*10+(c.toNat-48)=v at ih hge ⊢;by_cases h1:1844674407370955162≤a;rw [if_pos h1,if_neg O];rw [if_neg h1];by_cases h2:M<v;rw [if_pos h2,if_neg O];rw [if_neg h2,ih];by_cases hl:l=[];subst hl;rw [if_pos rfl];rw [if_pos (show valN v []≤M by show v≤M;omega)];rfl;rw [if_neg hl]
theorem Qic(l:List UInt8)(h:allD l)(hne:l≠[]):Lib.parseIntB 64 l=if valN 0 l<9223372036854775808 then .ok (valN 0 l:Int) else .range:=by
 cases l with
 | nil=>exact absurd rfl hne
 | cons c r =>
  have hc:=h c (Awa ..);have e1:(2:Nat) ^ (64-1)=9223372036854775808:=by decide
  have e2:(2:Nat) ^ 64-1=18446744073709551615:=by decide
  have hm:=Uqb _ rfl (c::r) 0 h;rw [if_neg (by simp:¬ (c::r)=[])] at hm;simp only [Lib.parseIntB,Lib.parseUintB,e1,e2];rw [if_neg (by omega:¬ (c.toNat=43∨c.toNat=45)),if_neg (by simp:¬ (c::r)=[]),hm];by_cases h2:valN 0 (c::r)≤18446744073709551615;rw [if_pos h2];by_cases h3:valN 0 (c::r)<9223372036854775808;rw [if_pos h3];simp only [];rw [if_neg O,if_neg O,if_neg O];rw [if_neg h3];simp only [];rw [if_pos O];rw [if_neg h2,if_neg O]
theorem Uxe(l:List UInt8)(h:allD l)(hne:l≠[])(hl:l.length≤20000)(w:Aa)(ev:Ga)(hv:w.cell? ⟨9,0,none⟩=some ev)(hev:ev = .nilIface∨∃ te pe,ev = .iface te pe) :
 Ret PP 183 #[Str l,.int .i64 10,.int .i64 64] w fun v w'=>(∃ x e,v = .tuple #[.int .i64 x,e]∧(e = .nilIface∨∃ a b,e = .iface a b)∧nilV e=decide (valN 0 l<9223372036854775808))∧G w w':=by
 have hp:=Qic l h hne;by_cases h3:valN 0 l<9223372036854775808;rw [if_pos h3] at hp;refine (Go.Proofs.Any.strconv_ParseInt_10_at64_ok Wed ⟨l.toArray⟩ (by simp [ByteArray.size];omega) _ (by simpa using hp) w).mono ?_;rintro e w' ⟨rfl,hw⟩;refine ⟨_,rfl,⟨_,.nilIface,rfl,.inl rfl,by rw [Wig h3];rfl⟩,?_⟩;rcases hw with rfl|⟨t,rfl⟩;exact G.refl _;exact Lib.bytesWorld_below _ _ _;rw [if_neg h3] at hp;refine (Go.Proofs.Any.strconv_ParseInt_10_at64_range Wed ⟨l.toArray⟩ (by simp [ByteArray.size];omega) (by simpa using hp) ev w hv hev).mono ?_;rintro e w' ⟨N,rfl,_,_,hb⟩;exact ⟨_,rfl,⟨_,_,rfl,.inr ⟨_,_,rfl⟩,by rw [Whg h3];rfl⟩,hb⟩
end Go.Rk
namespace Go.Rk
open Go.Proofs
open Go Go.RowKit
def opsL:List (List UInt8):=[[58,61],[61,61],[33,61],[60,61],[62,61],[38,38],[124,124],[60,45],[40],[41],[91],[93],[123],[125],[44],[59],[58],[46],[61],[60],[62],[43],[45],[42],[47],[37],[33]]
structure Laid (w:Aa):Prop where
  ops:RowAt w 7 0 (opsL.map Str)
  err:∃ ev,w.cell? ⟨9,0,none⟩=some ev∧(ev = .nilIface∨∃ te pe,ev = .iface te pe)
theorem Laid.below{w w':Aa}{base:Nat}(h:Laid w)(hb:10≤base)(g:Below base w w'):Laid w' :=
 ⟨fun j v hj=>(Below.cell g (show 7<base by omega)).trans (h.ops j v hj),by
 obtain ⟨ev,h1,h2⟩:=h.err;exact ⟨ev,(Below.cell g (show 9<base by omega)).trans h1,h2⟩⟩
theorem Laid.grow{w w':Aa}(h:Laid w)(g:G w w'):Laid w' :=
 ⟨h.ops.grow g,by
 obtain ⟨ev,h1,h2⟩:=h.err;exact ⟨ev,Zmb g h1,h2⟩⟩
def cAt(s:List UInt8)(p:Nat):Int:=((s.getD p 0).toNat:Int)
def isNotLf(c:Int):Bool:=!decide (c=10)
def isAlnum(c:Int):Bool:=letterB c || digitB c
def Ydb(l:List UInt8):Nat:=match opsL.find? (fun o=>preB o l) with
 | some o=>o.length
 | none=>0
def badD(s:List UInt8)(p n:Nat):Bool:=(decide (cAt s p=48)&&decide ((1:Int)<n)) || (decide ((p:Int)+n<s.length)&&letterB (cAt s (p+n)))
def wordK(l:List UInt8):Int:=bif inB kws l then 3 else 1
def nextF(s:List UInt8)(p:Nat)(ts cs:List Tok):Nat×List Tok×List Tok×Int :=
 bif decide (cAt s p=10) then (p+1,nlTs p ts,cs,0)
 else bif (decide (cAt s p=32) || decide (cAt s p=9)) || decide (cAt s p=13) then (p+1,ts,cs,0)
 else bif preB [47,47] (s.drop p) then (p+runN isNotLf (s.drop p),ts,cs++[⟨5,(s.drop p).take (runN isNotLf (s.drop p)),p⟩],0)
 else bif letterB (cAt s p) then bif decide ((32:Int)<runN isAlnum (s.drop p)) then (p,ts,cs,3)
  else (p+runN isAlnum (s.drop p),ts++[⟨wordK ((s.drop p).take (runN isAlnum (s.drop p))),(s.drop p).take (runN isAlnum (s.drop p)),p⟩],cs,0)
 else bif digitB (cAt s p) then bif badD s p (runN digitB (s.drop p)) then (p,ts,cs,4)
  else bif decide (valN 0 ((s.drop p).take (runN digitB (s.drop p)))<9223372036854775808) then (p+runN digitB (s.drop p),ts++[⟨2,(s.drop p).take (runN digitB (s.drop p)),p⟩],cs,0) else (p,ts,cs,4)
 else bif Aaa (Ydb (s.drop p)) 0 then (p,ts,cs,4)
 else (p+Ydb (s.drop p),ts++[⟨4,(s.drop p).take (Ydb (s.drop p)),p⟩],cs,0)
theorem Woa{q:Int→Bool}{s:List UInt8}{p:Nat}(h:p<s.length)(hq:q (cAt s p)=true):1≤runN q (s.drop p):=by rw [Ygc h hq];omega
theorem Xra(q:Int→Bool){s:List UInt8}{p:Nat}(h:p<s.length):p+runN q (s.drop p)≤s.length:=by
 have:=Wkf q (s.drop p);rw [Axa] at this;omega
theorem Vic(q:Int→Bool):∀ (l:List UInt8),∀ c∈l.take (runN q l),q c.toNat=true
 | [],c,hc=>by cases hc
 | a::l,c,hc=>by
  rw [runN] at hc;split at hc;rename_i h;rw [Bma] at hc;rcases List.mem_cons.mp hc with rfl|hc;exact h;exact Vic q l c hc;cases hc
theorem Wkb(s:List UInt8)(p:Nat):allD ((s.drop p).take (runN digitB (s.drop p))):=fun c hc=>by
 have:=Vic digitB _ c hc;simp only [digitB,Aka,Wkg] at this;omega
theorem Wmf{i:Nat}(h:i<27):(opsL.map Str).toArray[i]? = some (Str (opsL.getD i [])):=by
 have hl:opsL.length=27:=rfl;simp [Aea,Aca (show i<opsL.length by omega)]
theorem Uye:∀ i<27,1≤(opsL.getD i []).length:=by decide
theorem Uvd{l:List UInt8}{i:Nat}(h:i<27)(h1:∀ j<i,preB (opsL.getD j []) l=false)(h2:preB (opsL.getD i []) l=true):Ydb l=(opsL.getD i []).length:=by
 have hl:opsL.length=27:=rfl
 have:opsL.find? (fun o=>preB o l)=some (opsL.getD i []):=by
  rw [Bna];refine ⟨h2,i,O,?_,fun j hj=>?_⟩;simp [Aea,Aca (show i<opsL.length by omega)];have:=h1 j hj;simp [Aea,Aca (show j<opsL.length by omega)] at this;simp [this]
 rw [Ydb,this]
theorem Uwd{l:List UInt8}(h1:∀ j<27,preB (opsL.getD j []) l=false):Ydb l=0:=by
 have hl:opsL.length=27:=rfl
 have:opsL.find? (fun o=>preB o l)=none:=by
  rw [Boa];intro o ho;obtain ⟨j,hj,rfl⟩:=Aua ho;have:=h1 j O;simp [Aea,Aca hj] at this;simp [this]
 rw [Ydb,this]
theorem Uze{o l:List UInt8}(h:preB o l=true):o.length≤l.length∧l.take o.length=o:=by
 simpa [preB] using h
theorem Wnf(base b:Nat)(hb3:10≤base)(s:List UInt8)(p:Nat)(ts cs:List Tok)(w:Aa)(hL:Laid w)(hs:Scn base b s p ts cs w)(hp:p<s.length) :
 Ret PP 168 #[.pointer (some ⟨b,0,none⟩)] w fun v w'=>v = .int .i64 (nextF s p ts cs).2.2.2∧Scn base b s (nextF s p ts cs).1 (nextF s p ts cs).2.1 (nextF s p ts cs).2.2.1 w'∧Below base w w':=by
 obtain ⟨ta,tc,ca,cc,hs,k1,k2,k3,k4⟩:=hs.sa;have g:=G.refl w;refine Ji (m:=204) Tryz.func168 J J [(0,True,_)] (Za J (Zo _)) ?_;refine Zn (Zu (Xc J (Ze (kq (Zn (Xe [3,3,3,0,3,3,3,0,3,3] [true,true,true,true,true,true,true,true,true,true] [0,1,3,7,0,16,48,112,255,511] mix KR ?_))))));have g:=gdr g;refine Zx J (Un J (Xm Vi J (Xr Xb J (by first|exact (hs.grow g).B.at_ J) (Zx J (Un J (Xm Yw J (Xr Yk J (by first|exact (hs.grow g).B.at_ J) (Zs J (fun _=>Qp Yq (Zc J) (Zc J) (fun _=>O)) (Xc J (Ze (kq (Zn (Yz (Zn (Zu (Zx J (?_)))))))))))))))));refine Jwa J J (Xc J (Ze (kq (Qk J (fun h1=>?_) (fun h1=>?_)))));replace h1:decide (cAt s p=10)=true:=h1;have hN:nextF s p ts cs=(p+1,nlTs p ts,cs,0):=by unfold nextF;rw [h1];rfl
 refine Zu (Zx J (CL (Utd base b s p ts cs _ ((hs.grow g).scn k1 k2 k3 k4) hp) ?_));rintro v45 w45 ⟨rfl,hs',hb'⟩;refine ⟨nw1,?_⟩;have hb':=(Xba g hs.base_le).trans hb';refine Ze (kq (Zn (Zu (Xc J (Ze (kq (Xw (Qd J J ?_))))))));rw [hN];exact ⟨rfl,hs',hb'⟩;replace h1:decide (cAt s p=10)=false:=h1;refine Zn (Zu (Zx J (Jwa J J (Zx J (Zv J J J (fun _=>Zm (Zc J)) (Zv J J J (fun _=>Jza (Zz J id) Xh) (Zs J (fun _=>Wb (Zc J) (Zz J id)) (Zx J (Zv J J J (fun _=>Zm (Zc J)) (Zv J J J (fun _=>Jza (Zz J id) Xh) (Zs J (fun _=>Wb (Zc J) (Zz J id)) (Xc J (Ze (kq (Qk J (fun h2=>?_) (fun h2=>?_))))))))))))))));replace h2:((decide (cAt s p=32) || decide (cAt s p=9)) || decide (cAt s p=13))=true:=h2;have hN:nextF s p ts cs=(p+1,ts,cs,0):=by unfold nextF;rw [h1,h2];rfl
 refine Zu (Zx J (Un J (Xm Yw J (Xr Yk J (by first|exact (hs.grow g).B.at_ J) (Vta J J O (Un J (Xm Yw J (Xo J Wz (Zc J) (Zc J) J J (hs.grow g).B J J ?_))))))));intro w63 hg63 hz63 hB;have hb':=Wjb (Below.refl _ _) g hg63 hs.base_le hs.hb;have hs':=((hs.grow g).setp (q:=p+1) hg63 hB).scn O O O k4;refine Ze (kq (Zn (Zu (Xc J (Ze (kq (Xw (Qd J J ?_))))))));rw [hN];exact ⟨rfl,hs',hb'⟩;replace h2:((decide (cAt s p=32) || decide (cAt s p=9)) || decide (cAt s p=13))=false:=h2;refine Zn (Xe [3,3,3,0,3,3,3,0,3,1,3] [true,true,true,true,true,true,true,true,true,true,true] [0,1,3,7,0,16,48,112,255,511,1023] mix KR ?_);have g:=gdr g;refine Zx J (Un J (Xm Vi J (Xr Xb J (by first|exact (hs.grow g).B.at_ J) (Zx J (Un J (Xm Yw J (Xr Yk J (by first|exact (hs.grow g).B.at_ J) (Zs J (fun _=>Xrb Yq (Zc J) (Zc J) (fun _=>O)) (Ub J (Yd Vua Ve (aqc J (aqc J aq0)) J) (Upb _ _ _) (fun w74 g74=>?_))))))))));have g:=g.trans g74;refine Xc J (Ze (kq (Qk J (fun h3=>?_) (fun h3=>?_))));replace h3:preB [47,47] (s.drop p)=true:=h3;have hn:=Woa (q:=isNotLf) hp (by rw [isNotLf,h1];rfl);have hf:=Xra isNotLf hp;have hN:nextF s p ts cs=(p+runN isNotLf (s.drop p),ts,cs++[⟨5,(s.drop p).take (runN isNotLf (s.drop p)),p⟩],0):=by unfold nextF;rw [h1,h2,h3];rfl
 have e:((p:Int)+(runN isNotLf (s.drop p):Nat)).toNat-(p:Int).toNat=runN isNotLf (s.drop p):=by omega
 refine Zn (Zu (Zx J (Ub J (Yd Xla Ve (aqc J (aqc J aq0)) J) (Uud base b s p ts cs _ ((hs.grow g).scn k1 k2 k3 k4) _ isNotLf Yub Uve) (fun w76 g76=>?_))));have g:=g.trans g76;refine Xc J (Ze (kq (Zn (Xe [3,3,3,3,0,3,3,3,0,3,3,3,0,3,3,3,0,3,3,3,3,3,3,0,3,1,2,3,3,2] [true,true,true,true,true,true,true,true,true,true,true,true,true,true,true,true,true,true,true,true,true,true,true,true,true,true,true,true,true,true] [0,0,2,6,14,0,32,96,224,0,512,1536,3584,0,8192,24576,57344,0,253952,524256,0,1048576,3145728,7340032,16777184,33554400,67108862,134217727,268435455,536870911] mix KR ?_))));have g:=gdr g;refine Zx J (Zx J (Un J (Xm Wma J (Xr Vf J (by first|exact (hs.grow g).B.at_ J) (Zx J (Un J (Xm Vi J (Xr Xb J (by first|exact (hs.grow g).B.at_ J) (Zx J (Un J (Xm Yw J (Xr Yk J (by first|exact (hs.grow g).B.at_ J) (Zx J (Un J (Xm Yw J (?_))))))))))))))));refine Xr Yk J (by first|exact (hs.grow g).B.at_ J) (Zx J (Vta J J O (Zs J (fun _=>Ypb Yq (Zc J) (Zc J) (Zc J) (fun _=>O)) (Zx J (Un J (Xm Yw J (Xr Yk J (by first|exact (hs.grow g).B.at_ J) (Zsa Xu Qi (pqc J (pqc J (pqc J pq0))) J J (CM fun _ _ N102 _ g E=>?_)))))))));have hb:=Xba g hs.base_le;have hs:=hs.grow g;have hz0:=hs.base_le;refine Qb J Yv Xu J Od (Zc J) hs.hc (Zc J) J N102.blk.row J (by simp only [maxLen];omega) O O ?_;intro ca' cc' w103 hc' hg103 hat;have hB:=hs.B.keep hg103 (Ne.symm hs.n2);have hz:=hg103.size;refine Un J (Xm Wma J (Xo J Xwa (Zc J) (Zc J) J J hB J J ?_));intro w105 hg105 hz105 hB
 have hb:=Jx (Jx hb hg103 hs.base_le (fun k hk=>(hs.hc.lt k hk).1)) hg105 (by have:=hs.base_le;omega) (fun k hk=>by injection hk with hk;have:=hs.hb;omega);rw [e] at hc';have hs:=hs.putC (t:=⟨5,(s.drop p).take (runN isNotLf (s.drop p)),p⟩) hc' hg103 hat hg105 hB;have g:=G.refl w105;refine Ze (kq (Zu (Zx J (Un J (Xm Yw J (Xr Yk J (by first|exact (hs.grow g).B.at_ J|exact E.g0.at_ J|exact E.g0.row) (Zx J (Vta J J O (Un J (Xm Yw J (Xo J Wz (Zc J) (Zc J) J J (hs.grow g).B J J ?_)))))))))));intro w113 hg113 hz113 hB;have hb':=Wjb hb g hg113 hs.base_le hs.hb;have hs':=((hs.grow g).setp (q:=p+runN isNotLf (s.drop p)) hg113 hB).scn O (by rw [Ala];show cs.length+1≤_;omega) hf k4;refine Wp [(2,_,_)] (Za J (Zo _)) (Ze (kq (Zn (Zu (Xc J (Ze (kq (Xw (Qd J J ?_)))))))));rw [hN];exact ⟨rfl,hs',hb'⟩;replace h3:preB [47,47] (s.drop p)=false:=h3;refine Zn (Zu (Zx J (Ub J (Yd Wab Ve (aqc J aq0) J) (Yec _ _) (fun w116 g116=>?_))));have g:=g.trans g116;refine Xc J (Ze (kq (Qk J (fun h4=>?_) (fun h4=>?_))));replace h4:letterB (cAt s p)=true:=h4;have hn:=Woa (q:=isAlnum) hp (by rw [isAlnum,h4];rfl);have hf:=Xra isAlnum hp;have e:((p:Int)+(runN isAlnum (s.drop p):Nat)).toNat-(p:Int).toNat=runN isAlnum (s.drop p):=by omega
 refine Zn (Zu (Zx J (Ub J (Yd Xla Ve (aqc J (aqc J aq0)) J) (Uud base b s p ts cs _ ((hs.grow g).scn k1 k2 k3 k4) _ isAlnum Yvb Uwe) (fun w118 g118=>?_))));have g:=g.trans g118;refine Xc J (Ze (kq (Zn (Zn (Zu (Zx J (Uje J J (Ze (kq (Qk J (fun h5=>?_) (fun h5=>?_)))))))))));have hN:nextF s p ts cs=(p,ts,cs,3):=by unfold nextF;rw [h1,h2,h3,h4,h5];rfl
 have hs':=(hs.grow g).scn k1 k2 k3 k4;have hb':=Xba g hs.base_le;refine Zn (Zu (Xc J (Ze (kq (Xw (Qd J J ?_))))));rw [hN];exact ⟨rfl,hs',hb'⟩;refine Yp (kq (Zn (Zu (Xc J (Ze (kq (Zn (Zn (Xe [3,3,3,0,3,3,3,0,3,3,3,0,3,3,3,1] [true,true,true,true,true,true,true,true,true,true,true,true,true,true,true,true] [0,1,3,7,0,16,48,112,0,256,768,1792,0,7936,16383,32767] mix KR ?_)))))))));have g:=gdr g;refine Zx J (Un J (Xm Vi J (Xr Xb J (by first|exact (hs.grow g).B.at_ J) (Zx J (Un J (Xm Yw J (Xr Yk J (by first|exact (hs.grow g).B.at_ J) (Zx J (Un J (Xm Yw J (Xr Yk J (by first|exact (hs.grow g).B.at_ J) (Zx J (Vta J J O (Zs J (fun _=>Ypb Yq (Zc J) (Zc J) (Zc J) (fun _=>O)) (Ub J (Yd Xvc Ve (aqc J aq0) J) (Usd _ _) (fun w136 g136=>?_))))))))))))))));have g:=g.trans g136;refine Ze (kq (Qk J (fun h6=>?_) (fun h6=>?_)));rw [e] at h6;replace h6:inB kws ((s.drop p).take (runN isAlnum (s.drop p)))=true:=h6;have hN:nextF s p ts cs=(p+runN isAlnum (s.drop p),ts++[⟨3,(s.drop p).take (runN isAlnum (s.drop p)),p⟩],cs,0):=by unfold nextF;rw [h1,h2,h3,h4,h5,wordK,h6];rfl
 refine Zu (Xc J (Ze (kq (Zu (Zx J (Zx J (Zx J (CL (Zxd base b s p ts cs _ _ _ ((hs.grow g).scn k1 k2 k3 k4) hn hf) ?_))))))));rintro v140 w140 ⟨rfl,hs',hb'⟩;refine ⟨nw1,?_⟩;have hb':=(Xba g hs.base_le).trans hb';refine Ze (kq (Zn (Zu (Xc J (Ze (kq (Xw (Qd J J ?_))))))));rw [hN];exact ⟨rfl,hs',hb'⟩;rw [e] at h6;replace h6:inB kws ((s.drop p).take (runN isAlnum (s.drop p)))=false:=h6;have hN:nextF s p ts cs=(p+runN isAlnum (s.drop p),ts++[⟨1,(s.drop p).take (runN isAlnum (s.drop p)),p⟩],cs,0):=by unfold nextF;rw [h1,h2,h3,h4,h5,wordK,h6];rfl
 refine Yp (kq (Zu (Zx J (Zx J (Zx J (CL (Zxd base b s p ts cs _ _ _ ((hs.grow g).scn k1 k2 k3 k4) hn hf) ?_))))));rintro v140 w140 ⟨rfl,hs',hb'⟩;refine ⟨nw1,?_⟩;have hb':=(Xba g hs.base_le).trans hb';refine Ze (kq (Zn (Zu (Xc J (Ze (kq (Xw (Qd J J ?_))))))));rw [hN];exact ⟨rfl,hs',hb'⟩;replace h4:letterB (cAt s p)=false:=h4;refine Zn (Zu (Zx J (Ub J (Yd Ukb Ve (aqc J aq0) J) (Vhc _ _) (fun w143 g143=>?_))));have g:=g.trans g143;refine Xc J (Ze (kq (Qk J (fun h7=>?_) (fun h7=>?_))));replace h7:digitB (cAt s p)=true:=h7;have hn:=Woa (q:=digitB) hp h7;have hf:=Xra digitB hp;have e:((p:Int)+(runN digitB (s.drop p):Nat)).toNat-(p:Int).toNat=runN digitB (s.drop p):=by omega
 refine Zn (Zu (Zx J (Ub J (Yd Xla Ve (aqc J (aqc J aq0)) J) (Uud base b s p ts cs _ ((hs.grow g).scn k1 k2 k3 k4) _ digitB Ukb Vhc) (fun w145 g145=>?_))));have g:=g.trans g145;refine Xc J (Ze (kq (Zn (Zn (Xe [3,3,3,3,3,3,3,3,3,3,0,3,3,3,3,3,0,3,3,3,3,3,3,0,3,3,3,0,3,3,3,1,3,3] [true,true,true,true,true,true,true,true,true,true,true,true,true,true,true,true,true,true,true,true,true,true,true,true,true,true,true,true,true,true,true,true,true,true] [0,1,3,7,15,31,63,127,255,511,1023,127,4095,127,8319,24703,57471,123007,262143,524287,1048575,2097151,4194303,8388607,1048575,17825791,51380223,118489087,1048575,521142271,1073741823,2147483647,4294967295,8589934591] mix KR ?_)))));have g:=gdr g;refine Zx J (Jwa J J (Zx J (Zv J J J (fun _=>Zm (Zc J)) (Zv J J J (fun _=>Woc (Zz J id) Xh) (Zs J (fun _=>Ww (Zc J) (Zz J id)) (Zx J (Zv J J J (fun _=>Zm (Zc J)) (Zv J J J (fun _=>Xia (Zz J id)) (Zv J J J (fun _=>Zg Yw (Zz J id)) (Xz J J J (Zw Yk (Zz J id) (fun _=>by first|exact (hs.grow g).B.at_ J)) (Zv J J J (fun _=>Zm (Zc J)) (Zv J J J (fun _=>Jca (Zz J id) (Zz J id) (fun _=>O)) (Zv J J J (fun _=>Zm (Zc J)) (Zv J J J (fun _=>Xia (Zz J id)) (Zv J J J (fun _=>Zg Vi (Zz J id)) (?_))))))))))))))))
 refine Xz J J J (Zw Xb (Zz J id) (fun _=>by first|exact (hs.grow g).B.at_ J)) (Zv J J J (fun _=>Zca Yq (Zz J id)) (Zv J J J (fun _=>Uib (Zz J id) (Zz J id)) (Zv J J J (fun _=>Zm (Zz J id)) (Zv J J J (fun _=>Zm (Zc J)) (Zv J J J (fun _=>Xia (Zz J id)) (Zv J J J (fun _=>Zg Vi (Zz J id)) (Xz J J J (Zw Xb (Zz J id) (fun _=>by first|exact (hs.grow g).B.at_ J)) (Zv J J J (fun _=>Zm (Zc J)) (Zv J J J (fun _=>Xia (Zz J id)) (Zv J J J (fun _=>Zg Yw (Zz J id)) (Xz J J J (Zw Yk (Zz J id) (fun _=>by first|exact (hs.grow g).B.at_ J)) (Zv J J J (fun _=>Zm (Zc J)) (Zv J J J (fun _=>Jca (Zz J id) (Zz J id) (fun _=>O)) (Zv J J J (fun _=>Qp Yq (Zz J id) (Zz J id) (fun hc=>by have:=Wmg hc.2;omega)) (Qa J J J (fun _=>(Yd Wab Ve (Yi (Zz J id) (Xj)) J)) (fun hc=>Yec _ _) (fun w177 g177=>?_))))))))))))))));have g:=g.trans g177;refine Zv J J J (fun _=>Ww (Zz J id) (Zz J id)) (Zs J (fun _=>Wb (Zc J) (Zz J id)) (Wp [(0,_,_),(2,_,_),(7,_,_),(179,_,_)] (Za J (Za J (Za J (Za J (Zo _))))) (Ze (kq (Qk J (fun h8=>?_) (fun h8=>?_))))));replace h8:badD s p (runN digitB (s.drop p))=true:=h8;have hN:nextF s p ts cs=(p,ts,cs,4):=by unfold nextF;rw [h1,h2,h3,h4,h7,h8];rfl
 have hs':=(hs.grow g).scn k1 k2 k3 k4;have hb':=Xba g hs.base_le;refine Zn (Zu (Xc J (Ze (kq (Xw (Qd J J ?_))))));rw [hN];exact ⟨rfl,hs',hb'⟩;replace h8:badD s p (runN digitB (s.drop p))=false:=h8;obtain ⟨ev,he1,he2⟩:=hL.err;have hdl:((s.drop p).take (runN digitB (s.drop p))).length=runN digitB (s.drop p):=by rw [Bca,Axa];omega
 refine Yp (kq (Zn (Zn (Xe [3,3,3,0,3,3,3,0,3,3,3,0,3,3,3,1,3,3,3,3,3] [true,true,true,true,true,true,true,true,true,true,true,true,true,true,true,true,true,true,true,true,true] [0,1,3,7,0,16,48,112,0,256,768,1792,0,7936,16383,32767,65535,131071,131071,262143,1048575] mix KR ?_))));have g:=gdr g;refine Zx J (Un J (Xm Vi J (Xr Xb J (by first|exact (hs.grow g).B.at_ J) (Zx J (Un J (Xm Yw J (Xr Yk J (by first|exact (hs.grow g).B.at_ J) (Zx J (Un J (Xm Yw J (Xr Yk J (by first|exact (hs.grow g).B.at_ J) (Zx J (Vta J J O (Zs J (fun _=>Ypb Yq (Zc J) (Zc J) (Zc J) (fun _=>O)) (Wm J (Yd Vyb Ve (aqc J (aqc J (aqc J aq0))) J) (Uxe _ (by rw [e];exact Wkb s p) (by rw [e];intro h0;have h0:=congrArg List.length h0;rw [show (List.take (runN digitB (s.drop p)) (List.drop (p:Int).toNat s)).length=runN digitB (s.drop p) from hdl] at h0;simp at h0;omega) (by rw [e];show ((s.drop p).take (runN digitB (s.drop p))).length≤20000;omega) _ ev (Zmb g he1) he2) ?_)))))))))))))));rintro v196 w196 ⟨⟨x,er,rfl,her,hnil⟩,g196⟩;refine ⟨fun _=>g196,?_⟩;have g:=g.trans g196;replace hnil:nilV er=decide (valN 0 ((s.drop p).take (runN digitB (s.drop p)))<9223372036854775808):=by rw [e] at hnil;exact hnil
 refine Zx J (Wga J J (Wga J J (Xc J (Xc J (Ze (kq (Zn (Zu (Zx J (Zs J (fun _=>Umd Xyd (Zc J) her) (Ze (kq (Qk J (fun h9=>?_) (fun h9=>?_))))))))))))));have h9:decide (valN 0 ((s.drop p).take (runN digitB (s.drop p)))<9223372036854775808)=false:=by replace h9:(!nilV er)=true:=h9;rw [hnil] at h9;simpa using h9
 have hN:nextF s p ts cs=(p,ts,cs,4):=by unfold nextF;rw [h1,h2,h3,h4,h7,h8,h9];rfl
 have hs':=(hs.grow g).scn k1 k2 k3 k4;have hb':=Xba g hs.base_le;refine Zn (Zu (Xc J (Ze (kq (Xw (Qd J J ?_))))));rw [hN];exact ⟨rfl,hs',hb'⟩;have h9:decide (valN 0 ((s.drop p).take (runN digitB (s.drop p)))<9223372036854775808)=true:=by replace h9:(!nilV er)=false:=h9;rw [hnil] at h9;simpa using h9
 have hN:nextF s p ts cs=(p+runN digitB (s.drop p),ts++[⟨2,(s.drop p).take (runN digitB (s.drop p)),p⟩],cs,0):=by unfold nextF;rw [h1,h2,h3,h4,h7,h8,h9];rfl
 refine Yp (kq (Zu (Zx J (Zx J (CL (Zxd base b s p ts cs _ _ _ ((hs.grow g).scn k1 k2 k3 k4) hn hf) ?_)))));rintro v203 w203 ⟨rfl,hs',hb'⟩;refine ⟨nw1,?_⟩;have hb':=(Xba g hs.base_le).trans hb';refine Ze (kq (Zn (Zu (Xc J (Ze (kq (Xw (Qd J J ?_))))))));rw [hN];exact ⟨rfl,hs',hb'⟩;replace h7:digitB (cAt s p)=false:=h7;refine Zn (Zn (Zu (Vx Uob J J ((hL.grow g).ops) (Zx J (Ze (kq (Yz (Xva (fun (i:Nat) u=>i≤27∧(∀ j<i,preB (opsL.getD j []) (s.drop p)=false)∧G w u) (fun i=>[(0,True,.pointer (some ⟨b,0,none⟩)),(21,True,.agg (opsL.map Str).toArray),(22,True,.int .i64 i)]) (fun i=>27-i) 0 ⟨O,by intro j hj;omega,g⟩ (Za J (Za J (Za J (Zo _)))) ?_))))))));rintro i u ⟨hi,hpre,g⟩;refine Zn (Zu (Znb J J (Ze (kq (Zn (Qk J (fun h10=>?_) (fun h10=>?_)))))));simp only [Wkg] at h10;have hi27:i<27:=by omega
 refine Yp (kq (Zn (Yz (Zn (Zu (Zs J (fun _=>Zce Zsd (Zc J) (Zc J) (fun _=>O) (fun _=>Wmf hi27)) (Xc J (Ze (kq (Zn (Xe [3,3,3,0,3,3,3,0,3,3,1] [true,true,true,true,true,true,true,true,true,true,true] [0,1,3,7,0,16,48,112,255,0,1023] mix KR ?_)))))))))));have g:=gdr g;refine Zx J (Un J (Xm Vi J (Xr Xb J (by first|exact (hs.grow g).B.at_ J) (Zx J (Un J (Xm Yw J (Xr Yk J (by first|exact (hs.grow g).B.at_ J) (Zs J (fun _=>Xrb Yq (Zc J) (Zc J) (fun _=>O)) (Zx J (Ub J (Yd Vua Ve (aqc J (aqc J aq0)) J) (Upb _ _ _) (fun w35 g35=>?_)))))))))));have g:=g.trans g35;refine Ze (kq (Qk J (fun h11=>?_) (fun h11=>?_)));replace h11:preB (opsL.getD i []) (s.drop p)=true:=h11;have h0:=Uvd hi27 hpre h11;have hn:=Uye i hi27;have hf:p+(opsL.getD i []).length≤s.length:=by have:=(Uze h11).1;rw [Axa] at this;omega
 have hN:nextF s p ts cs=(p+(opsL.getD i []).length,ts++[⟨4,(s.drop p).take (opsL.getD i []).length,p⟩],cs,0):=by
  unfold nextF;rw [h1,h2,h3,h4,h7,h0,show Aaa (opsL.getD i []).length 0=false by rw [Bool.eq_false_iff];intro h;have:=Bpa h;omega];rfl
 refine Zn (Zu (Zx J (Zx J (Zs J (fun _=>Zca Yq (Zc J)) (CL (Zxd base b s p ts cs _ _ _ ((hs.grow g).scn k1 k2 k3 k4) hn hf) ?_)))));rintro v39 w39 ⟨rfl,hs',hb'⟩;refine ⟨nw1,?_⟩;have hb':=(Xba g hs.base_le).trans hb';refine Ze (kq (Zn (Zu (Xc J (Ze (kq (Xw (Qd J J ?_))))))));rw [hN];exact ⟨rfl,hs',hb'⟩;refine Yp (kq (Zu (Vta J J O (Zx J (Wp [(0,_,_),(21,_,_),(22,_,_)] (Za J (Za J (Za J (Zo _)))) (Ze (fun a ha=>?_)))))))
 exact ⟨i+1,ha,⟨O,by
  intro j hj;by_cases e:j=i;rw [e];exact h11;exact hpre j O,g⟩,O⟩
 simp only [Wlg] at h10;have hi27:i=27:=by omega
 subst hi27;have h0:=Uwd hpre;have hN:nextF s p ts cs=(p,ts,cs,4):=by unfold nextF;rw [h1,h2,h3,h4,h7,h0];rfl
 have hs':=(hs.grow g).scn k1 k2 k3 k4;have hb':=Xba g hs.base_le;refine Jp J (kq (Zn (Zu (Xc J (Ze (kq (Xw (Qd J J ?_))))))));rw [hN];exact ⟨rfl,hs',hb'⟩
def goF(s:List UInt8):Nat→Nat→List Tok→List Tok→Nat×List Tok×List Tok×Int
 | 0,p,ts,cs=>(p,ts,cs,0)
 | f+1,p,ts,cs=>bif decide (p<s.length) then bif decide ((nextF s p ts cs).2.2.2=0) then goF s f (nextF s p ts cs).1 (nextF s p ts cs).2.1 (nextF s p ts cs).2.2.1 else nextF s p ts cs else (p,ts,cs,0)
def allF(s:List UInt8):Nat×List Tok×List Tok×Int:=bif decide ((20000:Int)<s.length) then (0,[],[],3) else goF s s.length 0 [] []
theorem Vjc{s:List UInt8}{p:Nat}{ts cs:List Tok}(h:p<s.length)(he:(nextF s p ts cs).2.2.2=0):p<(nextF s p ts cs).1:=by
 unfold nextF at he ⊢;cases h1:decide (cAt s p=10);cases h2:((decide (cAt s p=32) || decide (cAt s p=9)) || decide (cAt s p=13));cases h3:preB [47,47] (s.drop p);cases h4:letterB (cAt s p);cases h7:digitB (cAt s p);cases h8:Aaa (Ydb (s.drop p)) 0;simp only [Wpg,Wog];have:Ydb (s.drop p)≠0:=by intro h0;rw [h0] at h8;cases h8
 omega;rw [h1,h2,h3,h4,h7,h8] at he;simp at he;have:=Woa (q:=digitB) h h7;rw [h1,h2,h3,h4,h7] at he;cases h8:badD s p (runN digitB (s.drop p));rw [h8] at he;cases h9:decide (valN 0 ((s.drop p).take (runN digitB (s.drop p)))<9223372036854775808);rw [h9] at he;simp at he;simp only [Wpg,Wog];omega;rw [h8] at he;simp at he;have:=Woa (q:=isAlnum) h (by rw [isAlnum,h4];rfl);rw [h1,h2,h3,h4] at he;cases h5:decide ((32:Int)<runN isAlnum (s.drop p));simp only [Wpg,Wog];omega;rw [h5] at he;simp at he;have:=Woa (q:=isNotLf) h (by rw [isNotLf,h1];rfl);simp only [Wpg,Wog];omega;simp only [Wpg,Wog];omega;simp only [Wpg,Wog];omega
theorem Zhg(s:List UInt8)(w:Aa)(hL:Laid w)(hb3:10≤w.heap.size) :
 Ret PP 156 #[Str s] w fun v w'=>∃ b ta tc ca cc,v = .tuple #[.pointer (some ⟨b,0,none⟩),.int .i64 (allF s).2.2.2]∧SA w.heap.size b s (allF s).1 (allF s).2.1 (allF s).2.2.1 ta tc ca cc w'∧G w w':=by
 have g:=G.refl w;refine WK 27 [0] Tryz.func156 ?_;refine BM fun b8 w8 _ l8 g E=>?_;refine IF (fun h1=>?_) fun h1=>?_;have hN:allF s=(0,[],[],3):=by unfold allF;rw [h1];rfl
 refine RTN ?_;rw [hN];exact ⟨b8,none,0,none,0,rfl,⟨E.g0,l8,Qt _ _ _ _,Qt _ _ _ _,(by intro h;cases h),(by intro h;cases h),(by intro k h;cases h)⟩,g⟩;have hN:allF s=goF s s.length 0 [] []:=by unfold allF;rw [h1];rfl
 simp only [Wlg] at h1;refine Yp (kq (Zn (Yz (?_))))
 refine Xva (fun (x:Nat×List Tok×List Tok×Nat) u=>Scn w.heap.size b8 s x.1 x.2.1 x.2.2.1 u∧s.length-x.1≤x.2.2.2∧goF s x.2.2.2 x.1 x.2.1 x.2.2.1=goF s s.length 0 [] []∧G w u) (fun _=>[(0,True,Str s),(4,True,.pointer (some ⟨b8,0,none⟩))]) (fun x=>s.length-x.1) (0,[],[],s.length)
  ⟨(show SA w.heap.size b8 s 0 [] [] none 0 none 0 w8 from ⟨E.g0,l8,Qt _ _ _ _,Qt _ _ _ _,(by intro h;cases h),(by intro h;cases h),(by intro k h;cases h)⟩).scn (Aha _) (Aha _) (Aha _) O,Nat.sub_le _ _,rfl,g⟩ (Za rfl (Za rfl (Zo _))) ?_
 rintro ⟨p,ts,cs,f⟩ u ⟨hs,hf,he,g⟩;simp only at hs hf he;obtain ⟨ta,tc,ca,cc,hA,k1,k2,k3,k4⟩:=hs.sa;refine Zn (Zn (Zu (Zx J (Un J (Xm Yw J (Xr Yk J (hA.B.at_ J) (Zx J (Zs J (fun _=>Zca Yq (Zc J)) (Znb J J (Ze (kq (Qk J (fun h2=>?_) (fun h2=>?_)))))))))))));replace h2:p<s.length:=by simp only [Wkg] at h2;omega
 obtain ⟨f',rfl⟩:∃ f',f=f'+1:=⟨f-1,O⟩;rw [goF,Wig h2,Wpg] at he;refine AU ?_;refine CL (Wnf _ _ hb3 s p ts cs _ (hL.grow g) hs h2) ?_;rintro v21 w21 ⟨rfl,hs',hb'⟩;refine ⟨nw1,?_⟩;have g:G w w21:=Below.trans g hb';refine IF (fun h3=>?_) fun h3=>?_;replace h3:decide ((nextF s p ts cs).2.2.2=0)=false:=by simpa using h3
 rw [h3,Wog] at he;refine RTN ?_;rw [hN,← he];obtain ⟨ta,tc,ca,cc,hA,_⟩:=hs'.sa;exact ⟨b8,ta,tc,ca,cc,rfl,hA,g⟩;replace h3:(nextF s p ts cs).2.2.2=0:=by simpa using h3
 have hlt:=Vjc h2 h3;rw [Wig h3,Wpg] at he;refine KC [0,4] ?_;refine Yp (fun a ha=>?_);exact ⟨(_,_,_,f'),ha,⟨hs',by show s.length-(nextF s p ts cs).1≤f';omega,he,g⟩,by show s.length-(nextF s p ts cs).1<s.length-p;omega⟩;have hp:p=s.length:=by simp only [Wlg] at h2;omega
 have he:(p,ts,cs,(0:Int))=goF s s.length 0 [] []:=by
  rw [← he]
  cases f with
  | zero=>rfl
  | succ f'=>rw [goF,Whg (by omega:¬ p<s.length)];rfl
 refine RTN ?_;rw [hN,← he];exact ⟨b8,ta,tc,ca,cc,rfl,hA,g⟩
def scanF(s:List UInt8):List Tok×Nat×Int:=bif !decide ((allF s).2.2.2=0) then ([],(allF s).1,(allF s).2.2.2) else ((allF s).2.1,0,0)
def Toks(base:Nat)(l:List Tok)(v:Ga)(w:Aa):Prop:=w.ownsRow base 94 3 v l.length (toksCells l)
theorem Zhe(s:List UInt8)(w:Aa)(hL:Laid w)(hb3:10≤w.heap.size) :
 Ret PP 132 #[Str s] w fun v w'=>∃ l,v = .tuple #[l,.int .i64 (scanF s).2.1,.int .i64 (scanF s).2.2]∧Toks w.heap.size (scanF s).1 l w'∧G w w':=by
 have g:=G.refl w;refine WK 23 [0] Tryz.func132 ?_;refine AU ?_;refine CL (Zhg s _ (hL.grow g) hb3) ?_;rintro v9 w9 ⟨b,ta,tc,ca,cc,rfl,hA,g9⟩;refine ⟨fun _=>g9,?_⟩;have g:=g.trans g9;refine IF (fun h1=>?_) fun h1=>?_;(try simp only [bsimp] at h1);refine Zn (Xe [3,3,3,0,3,3,3,3] [true,true,true,true,true,true,true,true] [0,1,3,7,0,0,47,127] mix KR ?_);have g:=gdr g;have gh:=G.drew w9;refine Zx J (Un J (Xm Yw J (Xr Yk J (by first|exact (hA.grow gh).B.at_ J) (Zx J (Xc J (Xc J (Xc J (Ze (kq (Xw (Yqb (ts:=[2,3,4]) (vs:=[_,_,_]) J J J ?_)))))))))));refine ⟨.slice none 0 0,?_,?_,g⟩;rw [scanF,show (!decide ((allF s).2.2.2=0))=true from h1];rfl;rw [scanF,show (!decide ((allF s).2.2.2=0))=true from h1];exact Qt _ _ _ _;have gh:=G.refl w9;refine Yp (kq (Zn (Zu (Zx J (Un J (Xm Ja J (Xr Vf J (by first|exact (hA.grow gh).B.at_ J) (Xc J (Xc J (Xc J (Ze (kq (Xw (Yqb (ts:=[2,3,4]) (vs:=[_,_,_]) J J J ?_))))))))))))));refine ⟨.slice ta (allF s).2.1.length tc,?_,?_,g⟩;rw [scanF,show (!decide ((allF s).2.2.2=0))=false from h1];rfl;rw [scanF,show (!decide ((allF s).2.2.2=0))=false from h1];exact hA.ht
structure Ty where
  kind:Int
  name:List UInt8
inductive Nd where
  | mk (kind:Int) (text:List UInt8) (num pos:Int) (kids:List Nd) (ty:Ty) (ref up:Int)
namespace Nd
def kind:Nd→Int | .mk k _ _ _ _ _ _ _=>k
def text:Nd→List UInt8 | .mk _ x _ _ _ _ _ _=>x
def num:Nd→Int | .mk _ _ n _ _ _ _ _=>n
def pos:Nd→Int | .mk _ _ _ a _ _ _ _=>a
def kids:Nd→List Nd | .mk _ _ _ _ ks _ _ _=>ks
def ty:Nd→Ty | .mk _ _ _ _ _ y _ _=>y
def ref:Nd→Int | .mk _ _ _ _ _ _ r _=>r
def up:Nd→Int | .mk _ _ _ _ _ _ _ u=>u
end Nd
def ty0:Ty:=⟨0,[]⟩
def nd0:Nd:=.mk 0 [] 0 0 [] ty0 0 0
def tyCells(y:Ty):List Ga:=[.int .i64 y.kind,Str y.name]
def ndCells(t:Nd)(v:Ga):List Ga:=[.int .i64 t.kind,Str t.text,.int .i64 t.num,.int .i64 t.pos,v,.int .i64 t.ty.kind,Str t.ty.name,.int .i64 t.ref,.int .i64 t.up]
@[reducible] def tyV(y:Ty):Ga:=.agg (tyCells y).toArray
@[reducible] def ndV(t:Nd)(v:Ga):Ga:=.agg (ndCells t v).toArray
theorem Jqa(t:Nd)(v:Ga):(ndCells t v).length=9:=rfl
mutual
theorem Nd.ind_n{C:Nd→Prop}(h:∀ t,(∀ k∈t.kids,C k)→C t):∀ t,C t
 | .mk k x n a ks y r u=>h _ (Nd.ind_l h ks)
theorem Nd.ind_l{C:Nd→Prop}(h:∀ t,(∀ k∈t.kids,C k)→C t):∀ (l:List Nd),∀ k∈l,C k
 | []=>fun _ hk=>by cases hk
 | t::ts=>Aya.2 ⟨Nd.ind_n h t,Nd.ind_l h ts⟩
end
theorem Nd.ind{C:Nd→Prop}(h:∀ t,(∀ k∈t.kids,C k)→C t)(t:Nd):C t:=Nd.ind_n h t
section
variable {α:Type}
mutual
def para(f:Nd→List α→α):Nd→α
 | .mk k x n a ks y r u=>f (.mk k x n a ks y r u) (paraL f ks)
def paraL(f:Nd→List α→α):List Nd→List α
 | []=>[]
 | t::ts=>para f t::paraL f ts
end
theorem Qae(f:Nd→List α→α)(l:List Nd):paraL f l=l.map (para f):=by
 induction l with
 | nil=>rfl
 | cons t ts ih=>rw [paraL,ih];rfl
theorem Xxa(f:Nd→List α→α)(t:Nd):para f t=f t (t.kids.map (para f)):=by
 cases t with
 | mk k x n a ks y r u=>rw [para,Qae];rfl
end
mutual
def KRow(w:Aa)(D:Nat→Prop):List Nd→List Ga→Prop
 | [],xs=>xs=[]
 | t::ts,xs=>∃ v r,xs=ndCells t v++r∧KNd w D t v∧KRow w D ts r
def KNd(w:Aa)(D:Nat→Prop):Nd→Ga→Prop
 | .mk _ _ _ _ ks _ _ _,v=>∃ p c,v = .slice p ks.length c∧ks.length≤c∧(0<ks.length→∃ b o,p=some ⟨b,o,none⟩∧D b∧∃ xs,RowAt w b o xs∧KRow w D ks xs)
end
def Kd(w:Aa)(D:Nat→Prop)(ks:List Nd)(v:Ga):Prop :=
 ∃ p c,v = .slice p ks.length c∧ks.length≤c∧(0<ks.length→∃ b o,p=some ⟨b,o,none⟩∧D b∧∃ xs,RowAt w b o xs∧KRow w D ks xs)
theorem Vkc(w:Aa)(D:Nat→Prop)(t:Nd)(v:Ga):KNd w D t v=Kd w D t.kids v:=by
 cases t;rw [KNd];rfl
theorem Vlc{w:Aa}{D:Nat→Prop}:KRow w D [] []:=rfl
theorem Xy{w:Aa}{D:Nat→Prop}{t:Nd}{ts:List Nd}{v:Ga}{r:List Ga}(h:Kd w D t.kids v)(k:KRow w D ts r):KRow w D (t::ts) (ndCells t v++r) :=
 ⟨v,r,rfl,(Vkc ..).symm▸h,k⟩
theorem Uca{w:Aa}{D:Nat→Prop}:∀ {ks:List Nd} {xs:List Ga},KRow w D ks xs→xs.length=ks.length*9
 | [],xs,h=>by rw [show xs=[] from h];rfl
 | t::ts,xs,h=>by
  obtain ⟨v,r,rfl,_,h⟩:=h;rw [Ala,Jqa,Uca h,Ama];omega
theorem Uda{w:Aa}{D:Nat→Prop}:∀ {ks ls:List Nd} {xs ys:List Ga},KRow w D ks xs→KRow w D ls ys→KRow w D (ks++ls) (xs++ys)
 | [],ls,xs,ys,h,k=>by rw [show xs=[] from h];exact k
 | t::ts,ls,xs,ys,h,k=>by
  obtain ⟨v,r,rfl,h1,h⟩:=h;exact ⟨v,r++ys,by rw [List.append_assoc],h1,Uda h k⟩
theorem Ys{w:Aa}{D:Nat→Prop}{t:Nd}{v:Ga}(h:Kd w D t.kids v):KRow w D [t] (ndCells t v):=by
 have:=Xy h (Vlc (w:=w) (D:=D));rwa [Bda] at this
theorem Wfd{w:Aa}{D:Nat→Prop}:∀ {ks:List Nd} {xs:List Ga} (_:KRow w D ks xs) {i:Nat} (hi:i<ks.length),∃ v,(xs.drop (i*9)).take 9=ndCells ks[i] v∧Kd w D ks[i].kids v
 | [],xs,h,i,hi=>by cases hi
 | t::ts,xs,h,i,hi=>by
  obtain ⟨v,r,rfl,h1,h⟩:=h
  cases i with
  | zero=>exact ⟨v,by simp [ndCells],Vkc w D t v▸h1⟩
  | succ i =>
   have hi':i<ts.length:=by simpa using hi
   obtain ⟨v',e,k⟩:=Wfd h hi';refine ⟨v',?_,k⟩
   have e9:(ndCells t v++r).drop ((i+1)*9)=r.drop (i*9):=by
    rw [show (i+1)*9=9+i*9 by omega,← List.drop_drop];rfl
   rw [e9];exact e
mutual
theorem Jl{w w':Aa}{D D':Nat→Prop}(hD:∀ b,D b→b<w.heap.size→D' b)(hf:∀ b,D b→b<w.heap.size→w'.heap[b]? = w.heap[b]?):∀ (ks:List Nd) (xs:List Ga),KRow w D ks xs→KRow w' D' ks xs
 | [],xs,h=>h
 | t::ts,xs,h=>by
  obtain ⟨v,r,rfl,h1,h⟩:=h;exact ⟨v,r,rfl,Qrc hD hf t v h1,Jl hD hf ts r h⟩
theorem Qrc{w w':Aa}{D D':Nat→Prop}(hD:∀ b,D b→b<w.heap.size→D' b)(hf:∀ b,D b→b<w.heap.size→w'.heap[b]? = w.heap[b]?):∀ (t:Nd) (v:Ga),KNd w D t v→KNd w' D' t v
 | .mk k x n a ks y r u,v,h=>by
  obtain ⟨p,c,rfl,hc,h⟩:=h;refine ⟨p,c,rfl,hc,fun h0=>?_⟩;obtain ⟨b,o,rfl,hb,xs,hR,hX⟩:=h h0;have hl:xs.length=ks.length*9:=Uca hX;have h0':∃ u,xs[0]? = some u:=⟨xs[0]'O,by simp⟩;obtain ⟨u0,hu0⟩:=h0';have hlt:b<w.heap.size:=World.block_lt_of_cell? w _ (hR 0 u0 hu0);have hb':=hf b hb hlt;refine ⟨b,o,rfl,hD b hb hlt,xs,fun j u hj=>?_,Jl hD hf ks xs hX⟩;have:=hR j u hj;unfold World.cell? at this ⊢;simp only [hb'];exact this
end
theorem Vg{w w':Aa}{D D':Nat→Prop}{ks:List Nd}{v:Ga}(h:Kd w D ks v)(hD:∀ b,D b→b<w.heap.size→D' b)(hf:∀ b,D b→b<w.heap.size→w'.heap[b]? = w.heap[b]?):Kd w' D' ks v:=by
 have:=Qrc hD hf (.mk 0 [] 0 0 ks ty0 0 0) v ((Vkc w D _ v).symm▸h);rw [Vkc] at this;exact this
theorem Kd.mono{w:Aa}{D D':Nat→Prop}{ks:List Nd}{v:Ga}(h:Kd w D ks v)(hD:∀ b,D b→b<w.heap.size→D' b):Kd w D' ks v:=Vg h hD fun _ _ _=>rfl
theorem KRow.mono{w:Aa}{D D':Nat→Prop}{ks:List Nd}{xs:List Ga}(h:KRow w D ks xs)(hD:∀ b,D b→b<w.heap.size→D' b):KRow w D' ks xs:=Jl hD (fun _ _ _=>rfl) _ _ h
theorem Kd.grow{w w':Aa}{D:Nat→Prop}{ks:List Nd}{v:Ga}(h:Kd w D ks v)(g:G w w'):Kd w' D ks v:=Vg h (fun _ h _=>h) fun _ _ hb=>g.block hb
theorem KRow.grow{w w':Aa}{D:Nat→Prop}{ks:List Nd}{xs:List Ga}(h:KRow w D ks xs)(g:G w w'):KRow w' D ks xs:=Jl (fun _ h _=>h) (fun _ _ hb=>g.block hb) _ _ h
theorem Kd.keep{w w':Aa}{D:Nat→Prop}{ks:List Nd}{v:Ga}{row:Option Nat}(h:Kd w D ks v)(hg:w.grownBy w' row)(hne:∀ b,D b→b<w.heap.size→some b≠row):Kd w' D ks v:=Vg h (fun _ h _=>h) fun b hb hlt=>hg.block b hlt (hne b hb hlt)
theorem KRow.keep{w w':Aa}{D:Nat→Prop}{ks:List Nd}{xs:List Ga}{row:Option Nat}(h:KRow w D ks xs)(hg:w.grownBy w' row)(hne:∀ b,D b→b<w.heap.size→some b≠row):KRow w' D ks xs:=Jl (fun _ h _=>h) (fun b hb hlt=>hg.block b hlt (hne b hb hlt)) _ _ h
theorem Kd.lt{w:Aa}{D:Nat→Prop}{ks:List Nd}{v:Ga}(h:Kd w D ks v):Kd w (fun b=>D b∧b<w.heap.size) ks v:=Vg h (fun _ h hl=>⟨h,hl⟩) fun _ _ _=>rfl
theorem KRow.lt{w:Aa}{D:Nat→Prop}{ks:List Nd}{xs:List Ga}(h:KRow w D ks xs):KRow w (fun b=>D b∧b<w.heap.size) ks xs:=Jl (fun _ h hl=>⟨h,hl⟩) (fun _ _ _=>rfl) _ _ h
theorem Kd.old{w w':Aa}{D:Nat→Prop}{ks:List Nd}{v:Ga}(h:Kd w D ks v)(g:G w w'):Kd w' (fun b=>D b∧b<w.heap.size) ks v:=h.lt.grow g
theorem Yhc(w:Aa)(D:Nat→Prop):Kd w D [] (.slice none 0 0):=⟨none,0,rfl,Ada _,fun h=>absurd h (Nat.lt_irrefl 0)⟩
theorem Zig{w:Aa}{base:Nat}{e:Ba}{v:Ga}{m:Nat}{xs:List Ga}{D:Nat→Prop}{ks:List Nd}(h:w.ownsRow base e 9 v m xs)(hm:m=ks.length)(k:KRow w D ks xs)(hD:∀ b,v.ownBlock=some b→D b):Kd w D ks v:=by
 subst hm;obtain ⟨a,c,rfl,hc⟩:=Yja h;refine ⟨a,c,rfl,hc,fun h0=>?_⟩;obtain ⟨b,c',hv,_,hR,_⟩:=Vna h h0;injection hv with hv _ _;subst hv;exact ⟨b,0,rfl,hD b rfl,xs,hR,k⟩
theorem Wi{w:Aa}{D:Nat→Prop}{ks:List Nd}{b o c:Nat}{xs:List Ga}(hb:D b)(hR:RowAt w b o xs)(hX:KRow w D ks xs)(hc:ks.length≤c):Kd w D ks (.slice (some ⟨b,o,none⟩) ks.length c):=⟨_,c,rfl,hc,fun _=>⟨b,o,rfl,hb,xs,hR,hX⟩⟩
theorem Wlb{w:Aa}{D:Nat→Prop}{ks:List Nd}{b o:Nat}{xs:List Ga}(hR:RowAt w b o xs)(hX:KRow w D ks xs){i:Nat}(hi:i<ks.length):∃ p c,RowAt w b (o+i*9) (ndCells ks[i] (.slice p ks[i].kids.length c))∧Kd w D ks[i].kids (.slice p ks[i].kids.length c):=by
 obtain ⟨v,e,k⟩:=Wfd hX hi;have:=hR.part (i*9) 9;rw [e] at this;obtain ⟨p,c,rfl,k1⟩:=k;exact ⟨p,c,this,p,c,rfl,k1⟩
/-! counting -/
def count(t:Nd):Nat:=para (fun _ l=>1+l.sum) t
theorem Zoa(t:Nd):count t=1+(t.kids.map count).sum:=Xxa _ t
theorem Xnc(l:List Nat)(i:Nat):(l.take i).sum≤l.sum:=by
 conv=>rhs;rw [← List.take_append_drop i l,Bea]
 omega
theorem Xca{t:Nd}{i:Nat}(h:i<t.kids.length):((t.kids.take i).map count).sum+count t.kids[i]+1≤count t:=by
 rw [Zoa t];have:=Xnc (t.kids.map count) (i+1);rw [← List.map_take,Bfa,Aca h] at this;simp only [Option.toList_some,List.map_append,List.map_cons,List.map_nil,Bea,List.sum_cons,List.sum_nil] at this;omega
theorem Vha(t:Nd):1≤count t:=by rw [Zoa];omega
theorem Urb:∀ (l:List Nd),l.length≤(l.map count).sum
 | []=>Ada _
 | t::ts=>by have:=Urb ts;have:=Vha t;simp;omega
theorem Vv(t:Nd):t.kids.length+1≤count t:=by
 have:=Urb t.kids;rw [Zoa];omega
theorem Yeb{t k:Nd}(h:k∈t.kids):count k+1≤count t:=by
 obtain ⟨i,hi,rfl⟩:=Aua h;have:=Xca hi;omega
theorem Usb{α β:Type}(f:α→β)(l:List α)(i:Nat)(h:i<l.length):(l.take (i+1)).map f=(l.take i).map f++[f l[i]]:=by
 rw [Bfa,Aca h,List.map_append];rfl
theorem Zie(c:Int)(w:Aa):Ret PP 94 #[.int .u8 c] w fun v w'=>v = .bool (letterB c)∧G w w':=by
 have g:=G.refl w;refine WK 21 [0] Tryz.func94 ?_;refine RTN ?_;exact ⟨rfl,g⟩
theorem Wof(c:Int)(w:Aa):Ret PP 96 #[.int .u8 c] w fun v w'=>v = .bool (digitB c)∧G w w':=by
 have g:=G.refl w;refine WK 9 [0] Tryz.func96 ?_;refine RTN ?_;exact ⟨rfl,g⟩
def alB(c:UInt8):Bool:=letterB c.toNat || digitB c.toNat
def nameB(s:List UInt8):Bool:=!(((decide (s=[]) || decide ((32:Int)<s.length)) || !letterB (cAt s 0)) || inB kws s)&&(s.drop 1).all alB
theorem Qbe{s:List UInt8}{i:Nat}(h:i<s.length):cAt s i=(s[i].toNat:Int):=by simp [cAt,Aea,Aca h]
theorem Qce(s:List UInt8)(w:Aa):Ret PP 77 #[Str s] w fun v w'=>v = .bool (nameB s)∧G w w':=by
   have g:=G.refl w
   refine WK 39 [0] Tryz.func77 ?_
   refine AU ?_
   refine Zv J J J (fun _=>Qp Yq (Zz J id) Xh (fun hc=>by
 have h1:=hc.2;simp only [Ara,Wlg] at h1
 have:s.length≠0:=fun h=>h1.1 (Bqa.1 h)
 omega)) (Qa rfl rfl rfl (fun _=>(Yd Xpa Ve (Yi (Zz rfl id) (Xj)) rfl)) (fun hc=>Zie _ _) (fun w14 g14=>?_))
   have g:=g.trans g14
   refine AU ?_
   refine CG (fun hc=>Xmc _ _) (fun w19 g19=>?_)
   have g:=g.trans g19
   refine IF (fun h1=>?_) fun h1=>?_
   · (try simp only [bsimp] at h1)
     refine RTN ?_
     refine ⟨Wjg ?_,g⟩
     unfold nameB;rw [show (((decide (s=[]) || decide ((32:Int)<s.length)) || !letterB (cAt s 0)) || inB kws s)=true from h1];rfl
   have hn:nameB s=(s.drop 1).all alB:=by unfold nameB;rw [show (((decide (s=[]) || decide ((32:Int)<s.length)) || !letterB (cAt s 0)) || inB kws s)=false from h1];rfl
   have hl32:s.length≤32:=by
     simp only [Ara,Wlg] at h1;omega
   refine AU ?_
   refine Je (fun (i:Nat) u1=>(1≤i∧∀ j,1≤j→(h:j<s.length)→j<i→alB s[j]=true)∧G w19 u1) [(0,True,_)] (fun (i:Nat)=>[(3,True,.int .i64 i)]) (fun (i:Nat)=>s.length-i) (1) ⟨⟨O,fun j h1 _ h2=>by omega⟩,G.refl _⟩ (Za J (Za J (Zo _))) ?_
   rintro i u1 ⟨hI1,gl1⟩
   have g:=g.trans gl1
   refine IF (fun h2=>?_) fun h2=>?_
   · replace h2:i<s.length:=by simp only [Wkg] at h2;omega
     refine Yp (kq (Zn (Yz (Zn (Zu (Zx J (Zx J (Zs J (fun _=>Qp Yq (Zc J) (Zc J) (fun _=>O)) (Ub J (Yd Xpa Ve (aqc J aq0) J) (Zie _ _) (fun w30 g30=>?_))))))))))
     have g:=g.trans g30
     have gl1:=gl1.trans (g30)
     refine Uhe J (Zx J (Zv J J J (fun _=>Zm (Zc J)) (Zv J J J (fun _=>Zm (Zc J)) (Zv J J J (fun _=>Qp Yq (Zz J id) (Zz J id) (fun hc=>O)) (Qa J J J (fun _=>(Yd Qha Ve (Yi (Zz J id) (Xj)) J)) (fun hc=>Wof _ _) (fun w36 g36=>?_))))))
     have g:=g.trans g36
     have gl1:=gl1.trans (g36)
     refine IF (fun h3=>?_) fun h3=>?_
     · have h3':alB s[i]=false:=by
         rw [alB,← Qbe h2];simpa [cAt] using h3
       refine RTN ?_
       refine ⟨Wjg ?_,g⟩
       rw [hn,eq_comm,Bga]
       exact ⟨s[i],Bra.2 ⟨i-1,O,by congr 1;omega⟩,by rw [h3'];simp⟩
     have h3':alB s[i]=true:=by
       rw [alB,← Qbe h2]
       cases ha:letterB (cAt s i)
       · cases hb:digitB (cAt s i)
         · exfalso
           have h3:(!letterB (cAt s i) && !digitB (cAt s i))=false:=h3
           rw [ha,hb] at h3;cases h3
         · rfl
       · rfl
     refine AU ?_
     refine SK [3,0] ?_
     refine Ze (fun a ha=>?_)
     refine ⟨i+1,ha,⟨⟨O,fun j h4 h5 h6=>?_⟩,gl1⟩,O⟩
     by_cases e:j=i
     · subst e;exact h3'
     · exact hI1.2 j h4 h5 O
   replace h2:s.length≤i:=by simp only [Wlg] at h2;omega
   refine RTN ?_
   refine ⟨Wjg ?_,g⟩
   rw [hn,eq_comm,Ana]
   intro x hx
   obtain ⟨j,hj,rfl⟩:=Bra.1 hx
   exact hI1.2 _ O O O
/-! the same by the scanner -/
theorem Uxd{c:Int}(h:letterB c=true):decide (c=10)=false∧((decide (c=32) || decide (c=9)) || decide (c=13))=false∧decide (c=47)=false:=by
 simp only [letterB,Aza,Aka,Wkg] at h;simp only [Ara,Wlg];omega
theorem Qsc{q:Int→Bool}:∀ {l:List UInt8},(∀ c∈l,q c.toNat=true)→runN q l=l.length
 | [],_=>rfl
 | c::l,h=>by
  rw [runN,if_pos (h c (Awa ..)),Qsc fun x hx=>h x (Bla _ hx)];rfl
theorem Qde{s:List UInt8}(h:nameB s=true):s.length≠0∧s.length≤32∧letterB (cAt s 0)=true∧inB kws s=false∧runN isAlnum s=s.length:=by
 unfold nameB at h;simp only [Aka,Bool.not_eq_true',Ara,Wlg,Bool.not_eq_false'] at h;obtain ⟨⟨⟨⟨h1,h2⟩,h3⟩,h4⟩,h5⟩:=h;refine ⟨fun e=>h1 (Bqa.1 e),O,h3,h4,Qsc fun c hc=>?_⟩
 cases s with
 | nil=>cases hc
 | cons a l =>
  rcases List.mem_cons.1 hc with rfl|hc;have:letterB (c.toNat:Int)=true:=h3;rw [isAlnum,this];rfl;exact Ana.1 h5 c hc
theorem Wce{l:List UInt8}(h:decide (cAt l 0=47)=false):preB [47,47] l=false:=by
 cases l with
 | nil=>rfl
 | cons a l =>
  have:¬ (a.toNat:Int)=47:=Wng h;unfold preB;rw [Bha];right;rw [Wlg];intro e;rw [Ama,Bma] at e;injection e with e1 _;subst e1;exact this rfl
theorem Wde{s:List UInt8}(h:nameB s=true):scanF s=([⟨1,s,0⟩],0,0):=by
 obtain ⟨h0,h1,h2,h3,h4⟩:=Qde h;obtain ⟨a1,a2,a3⟩:=Uxd h2
 have hN:nextF s 0 [] []=(s.length,[⟨1,s,0⟩],[],0):=by
  unfold nextF;rw [a1,a2,show s.drop 0=s from rfl,Wce a3,h2,h4,Whg (by omega:¬ (32:Int)<(s.length:Nat)),Bsa (Ada _),wordK,h3];simp
 have hG:goF s s.length 0 [] []=(s.length,[⟨1,s,0⟩],[],0):=by
  obtain ⟨m,hm⟩:∃ m,s.length=m+1:=⟨s.length-1,O⟩;rw [hm,goF,Wig (by omega:0<s.length),hN];simp only [Wpg,decide_true]
  cases m with
  | zero=>rw [goF,hm]
  | succ m=>rw [goF,Whg O,Wog,hm]
 rw [scanF,allF,Whg (by omega:¬ (20000:Int)<s.length),Wog,hG];rfl
def NameTok(t:Tok):Prop:=t.kind=1→nameB t.text=true
theorem Uyd{s:List UInt8}{p:Nat}{ts:List Tok}(cs:List Tok)(hp:p<s.length)(h:∀ t∈ts,NameTok t):∀ t∈(nextF s p ts cs).2.1,NameTok t:=by
 have hn:∀ (l:List Tok) (t:Tok),(∀ t∈l,NameTok t)→NameTok t→∀ u∈l++[t],NameTok u:=by
  intro l t hl ht u hu;rcases List.mem_append.1 hu with hu|hu;exact hl u hu;rw [List.mem_singleton.1 hu];exact ht
 unfold nextF;cases h1:decide (cAt s p=10);cases h2:((decide (cAt s p=32) || decide (cAt s p=9)) || decide (cAt s p=13));cases h3:preB [47,47] (s.drop p);cases h4:letterB (cAt s p);cases h7:digitB (cAt s p);cases h8:Aaa (Ydb (s.drop p)) 0;exact hn _ _ h (fun e=>by simp at e);exact h;cases h8:badD s p (runN digitB (s.drop p));cases h9:decide (valN 0 ((s.drop p).take (runN digitB (s.drop p)))<9223372036854775808);exact h;exact hn _ _ h (fun e=>by simp at e);exact h;cases h5:decide ((32:Int)<runN isAlnum (s.drop p));refine hn _ _ h (fun e=>?_);simp only at e ⊢;have hq:isAlnum (cAt s p)=true:=by rw [isAlnum,h4];rfl
 have hpos:=Woa hp hq;have hfit:=Xra isAlnum hp;have hall:=Vic isAlnum (s.drop p);generalize hX:(s.drop p).take (runN isAlnum (s.drop p))=x at e hall ⊢;have hl:x.length=runN isAlnum (s.drop p):=by rw [← hX,Bca,Axa];omega
 have hk:inB kws x=false:=by
  cases hk:inB kws x;rfl;rw [wordK,hk] at e;cases e
 have hc:cAt x 0=cAt s p:=by
  rw [← hX];unfold cAt;simp [Aea,List.getElem?_take,show 0<runN isAlnum (s.drop p) from hpos]
 have h5':=Wng h5;unfold nameB;rw [Whg (by omega:¬ (32:Int)<(x.length:Nat)),hc,h4,hk,Whg (by intro e0;rw [e0] at hl;simp at hl;omega)];simp only [Afa,Aja,Aga,Ata];rw [Ana];intro c hc;exact hall c (List.mem_of_mem_drop hc);exact h;exact h;exact h;show ∀ t∈nlTs p ts,NameTok t;intro t ht
 have:nlTs p ts=ts∨∃ q,nlTs p ts=ts++[⟨4,[59],q⟩]:=by
  unfold nlTs
  cases ts.getLast? with
  | none=>exact .inl rfl
  | some u=>simp only [];split <;> first|exact .inl rfl|exact .inr ⟨_,rfl⟩
 rcases this with e|⟨q,e⟩;rw [e] at ht;exact h t ht;rw [e] at ht;exact hn _ _ h (fun e=>by simp at e) t ht
theorem Wgd(s:List UInt8):∀ (f p:Nat) (ts cs:List Tok),(∀ t∈ts,NameTok t)→∀ t∈(goF s f p ts cs).2.1,NameTok t
 | 0,_,_,_,h=>h
 | f+1,p,ts,cs,h=>by
  rw [goF];cases hp:decide (p<s.length);exact h;have hn:=Uyd (ts:=ts) cs (Wmg hp) h;cases decide ((nextF s p ts cs).2.2.2=0);exact hn;exact Wgd s f _ _ _ hn
theorem Uzd(s:List UInt8):∀ t∈(scanF s).1,NameTok t:=by
 rw [scanF,allF];cases decide ((20000:Int)<s.length);simp only [Wog];have:=Wgd s s.length 0 [] [] (fun t ht=>by cases ht);cases (!decide ((goF s s.length 0 [] []).2.2.2=0));exact this;exact fun t ht=>by cases ht
 exact fun t ht=>by cases ht
def tok1(l:List Tok):Tok:=l.getD 0 ⟨0,[],0⟩
def Qee(s:List UInt8):Bool:=((decide ((scanF s).2.2=0)&&decide (((scanF s).1.length:Int)=1))&&decide ((tok1 (scanF s).1).kind=1))&&decide ((tok1 (scanF s).1).text=s)
theorem Whd(s:List UInt8):Qee s=nameB s:=by
 cases h:nameB s;rw [Qee,Bool.eq_false_iff];intro hp;simp only [Aka,Wkg] at hp;obtain ⟨⟨⟨_,h2⟩,h3⟩,h4⟩:=hp
 have hm:tok1 (scanF s).1∈(scanF s).1:=by
  cases hl:(scanF s).1 with
  | nil=>rw [hl] at h2;simp at h2
  | cons a l=>exact Awa ..
 have:=Uzd s _ hm h3;rw [h4,h] at this;cases this;rw [Qee,Wde h];simp [tok1]
def pb(p:Option Addr):Nat:=match p with|some a=>a.block|none=>0
def po(p:Option Addr):Nat:=match p with|some a=>a.off|none=>0
def anyK:List Int→Int→Bool
 | [],_=>false
 | [a],k=>decide (k=a)
 | a::b::l,k=>decide (k=a) || anyK (b::l) k
def anyS:List (List UInt8)→List UInt8→Bool
 | [],_=>false
 | [a],k=>decide (k=a)
 | a::b::l,k=>decide (k=a) || anyS (b::l) k
theorem Jra:∀ (l:List Int) (k:Int),anyK l k=true↔k∈l
 | [],k=>by simp [anyK]
 | [a],k=>by simp [anyK]
 | a::b::l,k=>by rw [anyK,Aza,Jra (b::l) k,Wkg,List.mem_cons (a:=k) (b:=a)]
theorem Jub:∀ (l:List (List UInt8)) (k:List UInt8),anyS l k=true↔k∈l
 | [],k=>by simp [anyS]
 | [a],k=>by simp [anyS]
 | a::b::l,k=>by rw [anyS,Aza,Jub (b::l) k,Wkg,List.mem_cons (a:=k) (b:=a)]
theorem Qfe{w:Aa}{b o:Nat}{l:List Tok}(h:RowAt w b o (toksCells l))(hl:0<l.length):RowAt w b o (tokCells (tok1 l)):=by
 cases l with
 | nil=>cases hl
 | cons t l =>
  have:=h.part 0 3;exact this
theorem Xs{P:Fa}{n:Nat}{σ:List Ent}{c:Prop}{wb:Aa}{ty:Ba}{t e z by_:Nat}{x y:Ea}{p:Option Addr}{m q:Nat}{k:IntKind}{i:Int}(ht:tyElem P t=some (e,z,by_))(h:Ev n σ c x (.slice p m q))(h':Ev n σ c y (.int k i))(hi:c→0≤i∧i<m)(hp:c→p=some ⟨pb p,po p,none⟩) :
  Rd P n σ c wb (.indexAddr t x y) ty (.pointer (some ⟨pb p,po p+i.toNat*z,none⟩)):=.mk fun d pos after gd a ha hc w1 hg =>
 Vaa (P:=P) (wb:=wb) ht (Ev.to h fun hc=>congrArg (fun p=>Ia p m q) (hp hc)) h' hi d pos after gd a ha hc w1 hg
theorem Xsa{P:Fa}{Z:List Da→Act→Aa→Prop}{ops:List Oper}{cl:List Nat}{lv:List Bool}{W0:Aa}{n:Nat}{K:Act→Aa→Prop}{k:Nat}{rest:List Oper}{σ:List Ent}{w:Aa}{d:Nat}{ty:Ba}{pos:String}{after:Array Edge}{x y:Ea}{t e z by_:Nat}{p:Option Addr}{m q:Nat}{g:IntKind}{i:Int}(ht:tyElem P t=some (e,z,by_))(hx:opv σ x=some (True,.slice p m q))(hy:opv σ y=some (True,.int g i))(hi:0≤i∧i<m)(hp:p=some ⟨pb p,po p,none⟩)
  (h:SR P Z ops cl lv W0 n K (k+1) rest ((d,True,.pointer (some ⟨pb p,po p+i.toNat*z,none⟩)) :: σ) w) (hb:(Aaa (clOf cl k) 3&&Aia d n)=true:=by exact rfl):SR P Z ops cl lv W0 n K k (⟨some d,.indexAddr t x y,ty,pos,after,none⟩::rest) σ w:=Zs hb (fun _=>Xs ht (Yba hx) (Yba hy) (fun _=>hi) fun _=>hp) h
theorem Vmc{base:Nat}{l:List Tok}{v:Ga}{w:Aa}(h:Toks base l v w):∃ a c,v = .slice a l.length c∧(0<l.length→a=some ⟨pb a,po a,none⟩∧RowAt w (pb a) (po a) (tokCells (tok1 l))):=by
 obtain ⟨a,c,rfl,_⟩:=Yja h;refine ⟨a,c,rfl,fun h0=>?_⟩;obtain ⟨b,c',hv,_,hR,_⟩:=Vna h h0;injection hv with hv _ _;subst hv;exact ⟨rfl,Qfe hR h0⟩
theorem Wid(s:List UInt8)(w:Aa)(hL:Laid w)(hb3:10≤w.heap.size):Ret PP 109 #[Str s] w fun v w'=>v = .bool (nameB s)∧G w w':=by
 have g:=G.refl w;refine WK 34 [0] Tryz.func109 ?_;refine AU ?_;refine CL (Zhe s _ (hL.grow g) (by have:=g.size;omega)) ?_;rintro v8 w8 ⟨l,rfl,hT,g8⟩;obtain ⟨a,c,rfl,hr⟩:=Vmc hT;refine ⟨fun _=>g8,?_⟩;have g:=g.trans g8;refine AU ?_;refine Zv J J J (fun _=>Xs Yv (Zz J id) Xh (fun hc=>by have:=Wmg (Aba.1 hc.2).2;omega) (fun hc=>(hr (by have:=Wmg (Aba.1 hc.2).2;omega)).1)) ?_;refine AU ?_;refine Xz J J J (Zw Yk (Zz J id) (fun hc=>(hr (by have:=Wmg (Aba.1 hc.2).2;omega)).2 0 _ J)) ?_;refine AU ?_;refine Zv J J J (fun _=>Xs Yv (Zz J id) Xh (fun hc=>by have:=Wmg (Aba.1 (Aba.1 hc.2).1).2;omega) (fun hc=>(hr (by have:=Wmg (Aba.1 (Aba.1 hc.2).1).2;omega)).1)) ?_;refine AU ?_;refine Xz J J J (Zw Xb (Zz J id) (fun hc=>(hr (by have:=Wmg (Aba.1 (Aba.1 hc.2).1).2;omega)).2 1 _ J)) ?_;refine RTN ?_;refine ⟨Wjg ?_,g⟩;rw [← Whd];rfl
theorem Ty.ext'{a b:Ty}(h:a.kind=b.kind)(k:a.name=b.name):a=b:=by cases a;cases b;simp_all
def tyEqB(a b:Ty):Bool:=decide (a.kind=b.kind)&&(decide (a.name=b.name)&&true)
theorem Yfb(a b:Ty):tyEqB a b=true↔a=b:=by
 unfold tyEqB;simp only [Bool.and_true,Aka,Wkg];exact ⟨fun h=>Ty.ext' h.1 h.2,fun h=>by rw [h];exact ⟨rfl,rfl⟩⟩
theorem Qad(a b:Ty):tyEqB a b=tyEqB b a:=by
 rw [Bool.eq_iff_iff,Yfb,Yfb];exact eq_comm
def tInt:Ty:=⟨1,[]⟩
def tBool:Ty:=⟨2,[]⟩
def tNil:Ty:=⟨3,[]⟩
def tyValidB(y:Ty):Bool:=bif decide (y.kind=4) then nameB y.name else (decide (0≤y.kind)&&decide (y.kind≤12))&&decide (y.name=[])
def refB(y:Ty):Bool:=bif anyK [4,5,6,7] y.kind then tyValidB y else false
def Ql(y:Ty):Bool:=(tyEqB y tInt || tyEqB y tBool) || refB y
def Uq(to fr:Ty):Bool:=Ql to&&(tyEqB fr to || (tyEqB fr tNil&&refB to))
def compB(a b:Ty):Bool:=bif tyEqB a tNil || tyEqB b tNil then refB a || refB b
 else bif anyK [1,2,4,6] a.kind then tyEqB a b&&tyValidB a else false
theorem Yic(y:Ty)(w:Aa)(hL:Laid w)(hb3:10≤w.heap.size):Ret PP 135 #[tyV y] w fun v w'=>v = .bool (tyValidB y)∧G w w':=by
 have g:=G.refl w;refine WK 22 [0] Tryz.func135 ?_;refine BM fun _ _ _ _ g E=>?_;refine IF (fun h1=>?_) fun h1=>?_;(try simp only [bsimp] at h1);refine AU ?_;refine CP (Wid _ _ (hL.grow g) (by have:=g.size;omega)) (fun w8 g8=>?_);have g:=g.trans g8;replace E:=E.grow g8;refine RTN ?_;refine ⟨Wjg ?_,g⟩;unfold tyValidB;rw [h1];rfl;refine RTN ?_;refine ⟨Wjg ?_,g⟩;unfold tyValidB;rw [h1];rfl
theorem Wee(y:Ty)(w:Aa):Ret PP 76 #[tyV y] w fun v w'=>v = .bool (tyValidB y)∧G w w':=by
 have g:=G.refl w;refine WK 22 [0] Tryz.func76 ?_;refine BM fun _ _ _ _ g E=>?_;refine IF (fun h1=>?_) fun h1=>?_;(try simp only [bsimp] at h1);refine AU ?_;refine CP (Qce _ _) (fun w8 g8=>?_);have g:=g.trans g8;replace E:=E.grow g8;refine RTN ?_;refine ⟨Wjg ?_,g⟩;unfold tyValidB;rw [h1];rfl;refine RTN ?_;refine ⟨Wjg ?_,g⟩;unfold tyValidB;rw [h1];rfl
theorem Wec(y:Ty)(w:Aa)(hL:Laid w)(hb3:10≤w.heap.size):Ret PP 110 #[tyV y] w fun v w'=>v = .bool (refB y)∧G w w':=by
 have g:=G.refl w;refine WK 12 [0] Tryz.func110 ?_;refine BM fun _ _ _ _ g E=>?_;refine AU ?_;refine' OR [1,2] (fun hb1=>?y1) (kq ?n1)
 case y1 =>
  refine AU ?_;refine' OR [1,2] (fun hb2=>?y2) knr
  case y2 =>
   refine AU ?_;refine' OR [1,2] (fun hb3=>?y3) knr
   case y3 =>
    refine AU ?_;refine SK [5,1,2] ?_;exact Ze knr
 case n1 =>
  refine IF (fun h4=>?_) fun h4=>?_;have hq:anyK [4,5,6,7] y.kind=true:=h4;refine AU ?_;refine CP (Yic _ _ (hL.grow g) (by have:=g.size;omega)) (fun w11 g11=>?_);have g:=g.trans g11;replace E:=E.grow g11;refine RTN ?_;refine ⟨Wjg ?_,g⟩;unfold refB;rw [hq];rfl;have hq:anyK [4,5,6,7] y.kind=false:=h4;refine RTN ?_;refine ⟨Wjg ?_,g⟩;unfold refB;rw [hq];rfl
theorem Wpf(y:Ty):((tyValidB y&&decide (4≤y.kind))&&decide (y.kind≤7))=refB y:=by
 unfold refB;by_cases h:4≤y.kind∧y.kind≤7;rw [Wig h.1,Wig h.2]
 have:anyK [4,5,6,7] y.kind=true:=by
  simp only [anyK,Aza,Wkg];omega
 rw [this];simp
 have:anyK [4,5,6,7] y.kind=false:=by
  simp only [anyK,Ara,Wlg];omega
 rw [this,Wog,Bha,Bha,Wlg,Wlg];omega
theorem Wfc(y:Ty)(w:Aa):Ret PP 47 #[tyV y] w fun v w'=>v = .bool (refB y)∧G w w':=by
 have g:=G.refl w;refine WK 15 [0] Tryz.func47 ?_;refine BM fun _ _ _ _ g E=>?_;refine AU ?_;refine CP (Wee _ _) (fun w4 g4=>?_);have g:=g.trans g4;replace E:=E.grow g4;refine RTN ?_;refine ⟨Wjg ?_,g⟩;exact Wpf y
theorem Via(y:Ty)(w:Aa)(hL:Laid w)(hb3:10≤w.heap.size):Ret PP 86 #[tyV y] w fun v w'=>v = .bool (Ql y)∧G w w':=by
 have g:=G.refl w;refine WK 15 [0] Tryz.func86 ?_;refine Zn (Zu (BM fun _ _ _ _ g E=>?_));refine Xc J (Ze (kq (Zn (Zu (Vx Zl J J E.g0.row (Zsa Xd Vd (pqc J pq0) J J (Zs J (fun _=>Qy Wf (Zc J) (Zc J) J) (Zx J (Xz J J J (Zq Zl (Zc J) J (fun _=>E.g0.row)) (Zv J J J (fun _=>Uh [_,_] Xd J Vd (Xv Xh (Va)) J) (Zv J J J (fun _=>Qy Wf (Zz J id) (Zz J id) J) (Zs J (fun _=>Wb (Zc J) (Zz J id)) (Zx J (Xz J J J (Zq Zl (Zc J) J (fun _=>E.g0.row)) (Qa J J J (fun _=>(Yd Jda Ve (Yi (Zz J id) (Xj)) J)) (fun hc=>Wec _ _ (hL.grow g) (by have:=g.size;omega)) (fun w13 g13=>?_))))))))))))))));have g:=g.trans g13;replace E:=E.grow g13;refine RTN ?_;exact ⟨rfl,g⟩
theorem Qtc(y:Ty)(w:Aa):Ret PP 46 #[tyV y] w fun v w'=>v = .bool (Ql y)∧G w w':=by
 have g:=G.refl w;refine WK 15 [0] Tryz.func46 ?_;refine Zn (Zu (BM fun _ _ _ _ g E=>?_));refine Xc J (Ze (kq (Zn (Zu (Vx Zl J J E.g0.row (Zsa Xd Vd (pqc J pq0) J J (Zs J (fun _=>Qy Wf (Zc J) (Zc J) J) (Zx J (Xz J J J (Zq Zl (Zc J) J (fun _=>E.g0.row)) (Zv J J J (fun _=>Uh [_,_] Xd J Vd (Xv Xh (Va)) J) (Zv J J J (fun _=>Qy Wf (Zz J id) (Zz J id) J) (Zs J (fun _=>Wb (Zc J) (Zz J id)) (Zx J (Xz J J J (Zq Zl (Zc J) J (fun _=>E.g0.row)) (Qa J J J (fun _=>(Yd Zpb Ve (Yi (Zz J id) (Xj)) J)) (fun hc=>Wfc _ _) (fun w13 g13=>?_))))))))))))))));have g:=g.trans g13;replace E:=E.grow g13;refine RTN ?_;exact ⟨rfl,g⟩
theorem Qbd(a b:Ty)(w:Aa)(hL:Laid w)(hb3:10≤w.heap.size):Ret PP 136 #[tyV a,tyV b] w fun v w'=>v = .bool (Uq a b)∧G w w':=by
 have g:=G.refl w;refine WK 21 [0,1] Tryz.func136 ?_;refine BM fun _ _ _ _ g E=>?_;refine BN fun _ _ _ _ g E=>?_;refine Xc J (Ze (kq (Zn (Zu (Vx Zl J J E.g1.row (Ub J (Yd Xyb Ve (aqc J aq0) J) (Via _ _ (hL.grow g) (by have:=g.size;omega)) (fun w6 g6=>?_)))))));have g:=g.trans g6;replace E:=E.grow g6;refine Zx J (Xz J J J (Zq Zl (Zc J) J (fun _=>E.g0.row)) (Xz J J J (Zq Zl (Zc J) J (fun _=>E.g1.row)) (Zv J J J (fun _=>Qy Wf (Zz J id) (Zz J id) J) (Zv J J J (fun _=>Zm (Zz J id)) (Xz J J J (Zq Zl (Zc J) J (fun _=>E.g0.row)) (Zv J J J (fun _=>Uh [_,_] Xd J Vd (Xv Xh (Va)) J) (Zv J J J (fun _=>Qy Wf (Zz J id) (Zz J id) J) (Zv J J J (fun _=>Zm (Zz J id)) (Xz J J J (Zq Zl (Zc J) J (fun _=>E.g1.row)) (Qa J J J (fun _=>(Yd Jda Ve (Yi (Zz J id) (Xj)) J)) (fun hc=>Wec _ _ (hL.grow g) (by have:=g.size;omega)) (fun w17 g17=>?_)))))))))));have g:=g.trans g17;replace E:=E.grow g17;refine RTN ?_;exact ⟨rfl,g⟩
theorem Qcd(a b:Ty)(w:Aa):Ret PP 19 #[tyV a,tyV b] w fun v w'=>v = .bool (Uq a b)∧G w w':=by
 have g:=G.refl w;refine WK 21 [0,1] Tryz.func19 ?_;refine BM fun _ _ _ _ g E=>?_;refine BN fun _ _ _ _ g E=>?_;refine Xc J (Ze (kq (Zn (Zu (Vx Zl J J E.g1.row (Ub J (Yd Zhd Ve (aqc J aq0) J) (Qtc _ _) (fun w6 g6=>?_)))))));have g:=g.trans g6;replace E:=E.grow g6;refine Zx J (Xz J J J (Zq Zl (Zc J) J (fun _=>E.g1.row)) (Xz J J J (Zq Zl (Zc J) J (fun _=>E.g0.row)) (Zv J J J (fun _=>Qy Wf (Zz J id) (Zz J id) J) (Zv J J J (fun _=>Zm (Zz J id)) (Xz J J J (Zq Zl (Zc J) J (fun _=>E.g0.row)) (Zv J J J (fun _=>Uh [_,_] Xd J Vd (Xv Xh (Va)) J) (Zv J J J (fun _=>Qy Wf (Zz J id) (Zz J id) J) (Zv J J J (fun _=>Zm (Zz J id)) (Xz J J J (Zq Zl (Zc J) J (fun _=>E.g1.row)) (Qa J J J (fun _=>(Yd Zpb Ve (Yi (Zz J id) (Xj)) J)) (fun hc=>Wfc _ _) (fun w17 g17=>?_)))))))))));have g:=g.trans g17;replace E:=E.grow g17;refine RTN ?_;refine ⟨Wjg ?_,g⟩;unfold Uq;rw [Qad b a];rfl
theorem Qge(a b:Ty)(w:Aa)(hL:Laid w)(hb3:10≤w.heap.size):Ret PP 160 #[tyV a,tyV b] w fun v w'=>v = .bool (compB a b)∧G w w':=by
 have g:=G.refl w;refine WK 35 [0,1] Tryz.func160 ?_;refine BM fun _ _ _ _ g E=>?_;refine BN fun _ _ _ _ g E=>?_;refine AN fun _ _ _ _ g E=>?_;refine AS fun _ _ _ g E=>?_;refine IF (fun h1=>?_) fun h1=>?_;have hq:(tyEqB a tNil || tyEqB b tNil)=true:=h1;refine AU ?_;refine CP (Wec _ _ (hL.grow g) (by have:=g.size;omega)) (fun w16 g16=>?_);have g:=g.trans g16;replace E:=E.grow g16;refine AU ?_;refine CG (fun hc=>Wec _ _ (hL.grow g) (by have:=g.size;omega)) (fun w19 g19=>?_);have g:=g.trans g19;replace E:=E.grow g19;refine RTN ?_;refine ⟨Wjg ?_,g⟩;unfold compB;rw [hq];rfl;have hq:(tyEqB a tNil || tyEqB b tNil)=false:=h1;refine AU ?_;refine' OR [2,3,4] (fun hb2=>?y2) (kq ?n2)
 case y2 =>
  refine AU ?_;refine' OR [2,3,4] (fun hb3=>?y3) knr
  case y3 =>
   refine AU ?_;refine' OR [2,3,4] (fun hb4=>?y4) knr
   case y4 =>
    refine AU ?_;refine SK [23,2,3,4] ?_;exact Ze knr
 case n2 =>
  refine IF (fun h5=>?_) fun h5=>?_;have hr:anyK [1,2,4,6] a.kind=true:=h5;refine AU ?_;refine CG (fun hc=>Yic _ _ (hL.grow g) (by have:=g.size;omega)) (fun w33 g33=>?_);have g:=g.trans g33;replace E:=E.grow g33;refine RTN ?_;refine ⟨Wjg ?_,g⟩;unfold compB;rw [hq,hr];rfl;have hr:anyK [1,2,4,6] a.kind=false:=h5;refine RTN ?_;refine ⟨Wjg ?_,g⟩;unfold compB;rw [hq,hr];rfl
theorem Qhe(a b:Ty):(((tyEqB a b&&Ql a) && !decide (a.kind=5)) && !decide (a.kind=7))=(bif anyK [1,2,4,6] a.kind then tyEqB a b&&tyValidB a else false):=by
 cases tyEqB a b;simp;simp only [Ata];unfold Ql refB anyK anyK anyK anyK;by_cases h1:a.kind=1;have:tyEqB a tInt=tyValidB a:=by unfold tyEqB tyValidB;simp [h1,tInt];exact decide_eq_decide.2 Iff.rfl
 have:tyEqB a tBool=false:=by unfold tyEqB;simp [h1,tBool]
 simp_all;by_cases h2:a.kind=2;have:tyEqB a tBool=tyValidB a:=by unfold tyEqB tyValidB;simp [h2,tBool];exact decide_eq_decide.2 Iff.rfl
 have:tyEqB a tInt=false:=by unfold tyEqB;simp [h2,tInt]
 simp_all;have e1:tyEqB a tInt=false:=by unfold tyEqB;simp [h1,tInt]
 have e2:tyEqB a tBool=false:=by unfold tyEqB;simp [h2,tBool]
 rw [e1,e2];by_cases h4:a.kind=4;simp [h4];by_cases h6:a.kind=6;simp [h6];by_cases h5:a.kind=5;simp [h5];by_cases h7:a.kind=7;simp [h7];simp [h1,h2,h4,h5,h6,h7]
theorem Qie(a b:Ty)(w:Aa):Ret PP 48 #[tyV a,tyV b] w fun v w'=>v = .bool (compB a b)∧G w w':=by
 have g:=G.refl w;refine WK 38 [0,1] Tryz.func48 ?_;refine BM fun _ _ _ _ g E=>?_;refine BN fun _ _ _ _ g E=>?_;refine AN fun _ _ _ _ g E=>?_;refine AS fun _ _ _ g E=>?_;refine IF (fun h1=>?_) fun h1=>?_;have hq:(tyEqB a tNil || tyEqB b tNil)=true:=h1;refine AU ?_;refine CP (Wfc _ _) (fun w16 g16=>?_);have g:=g.trans g16;replace E:=E.grow g16;refine AU ?_;refine CG (fun hc=>Wfc _ _) (fun w19 g19=>?_);have g:=g.trans g19;replace E:=E.grow g19;refine RTN ?_;refine ⟨Wjg ?_,g⟩;unfold compB;rw [hq];rfl;have hq:(tyEqB a tNil || tyEqB b tNil)=false:=h1;refine AU ?_;refine CG (fun hc=>Qtc _ _) (fun w26 g26=>?_);have g:=g.trans g26;replace E:=E.grow g26;refine RTN ?_;refine ⟨Wjg ?_,g⟩;unfold compB;rw [hq,← Qhe];rfl
def tFunc:Ty:=⟨7,[]⟩
def typTexts:List (List UInt8):=[[],[105,110,116],[98,111,111,108],[110,105,108],[],[91,93,105,110,116],[99,104,97,110,32,105,110,116],[102,117,110,99,40,41],[109,117,116,101,120],[114,119,109,117,116,101,120],[103,114,111,117,112],[111,110,99,101],[97,116,111,109,105,99]]
def LaidT(w:Aa):Prop:=RowAt w 0 0 (typTexts.map Str)
theorem LaidT.grow{w w':Aa}(h:LaidT w)(g:G w w'):LaidT w':=RowAt.grow h g
theorem Qje{k:Int}(h0:0≤k)(h1:k≤12):(typTexts.map Str)[k.toNat]? = some (Str (typTexts.getD k.toNat [])):=by
 have hl:typTexts.length=13:=rfl;have h:k.toNat<typTexts.length:=by omega
 rw [List.getElem?_map,Aca h,Aea,Aca h];rfl
section
variable {α:Type} {f:α→List Ga} {z:Nat}
theorem Wmb(hf:∀ a,(f a).length=z):∀ (l:List α),(l.flatMap f).length=l.length*z
 | []=>by simp
 | a::l=>by rw [Aqa,Ala,hf,Wmb hf l,Ama,Nat.succ_mul,Bia]
theorem Zje(hf:∀ a,(f a).length=z):∀ (l:List α) (i:Nat) (h:i<l.length),((l.flatMap f).drop (i*z)).take z=f l[i]
 | [],_,h=>by cases h
 | a::l,0,_=>by
  rw [Aqa,Nat.zero_mul,List.drop_zero,List.take_append_of_le_length (by rw [hf];exact Ada _),Bsa (by rw [hf];exact Ada _)];rfl
 | a::l,i+1,h=>by
  have e:(((a::l).flatMap f)).drop ((i+1)*z)=(l.flatMap f).drop (i*z):=by
   rw [Aqa,Nat.succ_mul,Bia,← List.drop_drop];congr 1;rw [← hf a,List.drop_left]
  rw [e];exact Zje hf l i (by simpa using h)
def RowF(f:α→List Ga)(w:Aa)(l:List α)(v:Ga):Prop :=
 ∃ p c,v = .slice p l.length c∧l.length≤c∧(0<l.length→∃ b o,p=some ⟨b,o,none⟩∧RowAt w b o (l.flatMap f))
theorem RowF.grow{w w':Aa}{l:List α}{v:Ga}(h:RowF f w l v)(g:G w w'):RowF f w' l v:=by
 obtain ⟨p,c,rfl,hc,h⟩:=h;refine ⟨p,c,rfl,hc,fun h0=>?_⟩;obtain ⟨b,o,rfl,hR⟩:=h h0;exact ⟨b,o,rfl,hR.grow g⟩
theorem Vnc(w:Aa):RowF f w [] (.slice none 0 0):=⟨none,0,rfl,Ada _,fun h=>absurd h (Nat.lt_irrefl 0)⟩
theorem Wjd{w:Aa}{base:Nat}{e:Ba}{v:Ga}{m:Nat}{l:List α}(h:w.ownsRow base e z v m (l.flatMap f))(hm:m=l.length):RowF f w l v:=by
 subst hm;obtain ⟨a,c,rfl,hc⟩:=Yja h;refine ⟨a,c,rfl,hc,fun h0=>?_⟩;obtain ⟨b,c',hv,_,hR,_⟩:=Vna h h0;injection hv with hv _ _;subst hv;exact ⟨b,0,rfl,hR⟩
theorem Vnb(hf:∀ a,(f a).length=z){w:Aa}{b o:Nat}{l:List α}(h:RowAt w b o (l.flatMap f)){i:Nat}(hi:i<l.length):RowAt w b (o+i*z) (f l[i]):=by
 have:=h.part (i*z) z;rwa [Zje hf l i hi] at this
end
/-! loops that carry facts on the world -/
def BlkE(b:Nat)(e:Ba)(l:List Ga)(w:Aa):Prop:=Blk w b e l
def andE(p q:Aa→Prop)(w:Aa):Prop:=p w∧q w
def nilE(w:Aa):Prop:=True
theorem blkE{w:Aa}{b:Nat}{e:Ba}{l:List Ga}(h:Blk w b e l):BlkE b e l w:=h
theorem Ya{p q:Aa→Prop}{w:Aa}(h:p w)(k:q w):andE p q w:=⟨h,k⟩
theorem Xg(w:Aa):nilE w:=trivial
section
variable {P:Fa} {B:List Da→Aa→Prop} {n:Nat} {N T:Act→Aa→Prop} {X:List (Nat×(Act→Aa→Prop))} {σ:List Ent} {w:Aa}
theorem Ul{c:Code}{α:Type}(I:α→Aa→Prop)(E:Aa→Prop)(σc:List Ent)(σf:α→List Ent)(μ:α→Nat)(x0:α)(h0:I x0 w)(hE:E w)(hs:Sub (σf x0 ++ σc) σ)
 (round:∀ x w,I x w→E w→SZ P B n c (fun a' w'=>∃ y,Kn n (σf y ++ σc) a'∧I y w'∧E w'∧μ y < μ x) X T (σf x ++ σc) w):SZ P B n (.loop c) N X T σ w:=by
 refine Xva (fun x w=>I x w∧E w) (fun x=>σf x ++ σc) μ x0 ⟨h0,hE⟩ hs fun x w ⟨h1,h2⟩=>?_;refine .mk fun a ha=>Code.wp_mono (fun e a w q=>?_) (round x w h1 h2 a ha)
 cases e with
 | normal=>obtain ⟨y,q1,q2,q3,q4⟩:=q;exact ⟨y,q1,⟨q2,q3⟩,q4⟩
 | _=>exact q
end
theorem Vob{w:Aa}{D:Nat→Prop}:∀ {ls:List Nd} {news:List Ga},KRow w D ls news→onesB news=true
 | [],news,h=>by rw [show news=[] from h];rfl
 | t::ls,news,h=>by
  obtain ⟨v,r,rfl,hkn,hr⟩:=h;rw [Vkc] at hkn;obtain ⟨p,c,rfl,_⟩:=hkn;have:=Vob hr;unfold onesB at this ⊢;rw [List.all_append,this,Bool.and_true];rfl
/-! own rows -/
theorem Vpb{w:Aa}{base b:Nat}{e:Ba}{z m:Nat}{l:List Ga}(h:Blk w b e l)(hb:base≤b)(hl:l.length=m*z)(hm:m≤1000000):w.ownsRow base e z (.slice (some ⟨b,0,none⟩) m m) m l :=
 ⟨hl,.inr ⟨b,m,l.toArray,rfl,hb,h,Ada _,by simp only [maxLen];omega,by simpa using hl,by simp [← hl]⟩⟩
def Dx(base:Nat)(X:List Nat)(b:Nat):Prop:=base≤b∧b∉X
def OwnK(e:Ba)(D:Nat→Prop)(base:Nat)(w:Aa)(ks:List Nd)(s:Ga):Prop :=
 ∃ xs,w.ownsRow base e 9 s ks.length xs∧KRow w (fun b=>D b∧some b≠s.ownBlock) ks xs∧∀ b,s.ownBlock=some b→D b
section
variable {e:Ba} {D:Nat→Prop} {base:Nat} {w w':Aa} {ks:List Nd} {s:Ga}
theorem Qke(e:Ba)(D:Nat→Prop)(base:Nat)(w:Aa):OwnK e D base w [] (.slice none 0 0):=⟨[],Qt _ _ _ _,Vlc,fun b h=>by cases h⟩
theorem OwnK.slice(h:OwnK e D base w ks s):∃ a c,s = .slice a ks.length c:=by
 obtain ⟨xs,h1,_⟩:=h;obtain ⟨a,c,h2,_⟩:=Yja h1;exact ⟨a,c,h2⟩
theorem OwnK.ge(h:OwnK e D base w ks s):∀ k,s.ownBlock=some k→base≤k:=by
 obtain ⟨xs,h1,_⟩:=h;exact fun k hk=>(h1.lt k hk).1
theorem OwnK.lt(h:OwnK e D base w ks s):∀ k,s.ownBlock=some k→k<w.heap.size:=by
 obtain ⟨xs,h1,_⟩:=h;exact fun k hk=>(h1.lt k hk).2
theorem OwnK.ne(h:OwnK e D base w ks s){b:Nat}(hb:¬ D b):some b≠s.ownBlock:=by
 obtain ⟨xs,_,_,h3⟩:=h;exact fun he=>hb (h3 b he.symm)
theorem OwnK.grow(h:OwnK e D base w ks s)(g:G w w'):OwnK e D base w' ks s:=by
 obtain ⟨xs,h1,h2,h3⟩:=h;exact ⟨xs,Xk h1 g,h2.grow g,h3⟩
theorem OwnK.keep(h:OwnK e D base w ks s){b:Nat}(hg:w.grownBy w' (some b))(hb:¬ D b):OwnK e D base w' ks s:=by
 obtain ⟨xs,h1,h2,h3⟩:=h;refine ⟨xs,Yo h1 hg (.inr fun he=>hb (h3 b he)),h2.keep hg fun k hk _ he=>?_,h3⟩;injection he with he;exact hb (he▸hk.1)
theorem OwnK.kd(h:OwnK e D base w ks s){D':Nat→Prop}(hD:∀ b,D b→D' b):Kd w D' ks s:=by
 obtain ⟨xs,h1,h2,h3⟩:=h;exact Zig h1 rfl (h2.mono fun b hb _=>hD b hb.1) fun b hb=>hD b (h3 b hb)
theorem Yea{b:Nat}{t:Nd}{v:Ga}(h:Blk w b e (ndCells t v))(hb:base≤b)(hk:Kd w (fun k=>D k∧k≠b) t.kids v)(hD:D b):OwnK e D base w [t] (.slice (some ⟨b,0,none⟩) 1 1):=by
 refine ⟨_,Vpb h hb J Od,Ys (hk.mono fun k hk _=>⟨hk.1,fun he=>?_⟩),fun k hk=>?_⟩;injection he with he;exact hk.2 he;injection hk with hk;exact hk▸hD
theorem OwnK.append{ls:List Nd}{news:List Ga}{a':Option Addr}{c':Nat}{xs:List Ga}(h:OwnK e D base w ks s)(hx:w.ownsRow base e 9 s ks.length xs)(hX:KRow w (fun b=>D b∧some b≠s.ownBlock) ks xs)
 (hn:KRow w (fun b=>D b∧some b≠s.ownBlock) ls news) (hD:D w.heap.size) (ho:w'.ownsRow base e 9 (.slice a' (ks.length+ls.length) c') (ks.length+ls.length) (xs++news)) (hg:w.grownBy w' s.ownBlock)
 (hat:(Ia a' (ks.length+ls.length) c').ownBlock=s.ownBlock∨(Ia a' (ks.length+ls.length) c').ownBlock=some w.heap.size):OwnK e D base w' (ks++ls) (.slice a' (ks++ls).length c'):=by
 have hlen:(ks++ls).length=ks.length+ls.length:=by simp
 refine ⟨xs++news,by rw [hlen];exact ho,?_,?_⟩;have h1:=Uda hX hn;rw [hlen];refine Jl (fun b hb hlt=>⟨hb.1,?_⟩) (fun b hb hlt=>hg.block b hlt hb.2) _ _ h1;rcases hat with he|he <;> rw [he]
 exact hb.2;intro e;injection e with e;omega;rw [hlen];intro b hb;rcases hat with he|he <;> rw [he] at hb
 obtain ⟨_,_,_,h3⟩:=h;exact h3 b hb;injection hb with hb;exact hb▸hD
end
section
variable {P:Fa} {Z:List Da→Act→Aa→Prop} {ops:List Oper} {cl:List Nat} {lv:List Bool} {W0:Aa} {n:Nat} {K:Act→Aa→Prop} {k:Nat} {rest:List Oper} {σ:List Ent} {w:Aa} {d:Nat} {ty:Ba} {pos:String} {after:Array Edge}
theorem Qdd{t e base q q':Nat}{x y:Ea}{s zv:Ga}{news:List Ga}{b' o':Nat}{D:Nat→Prop}{ks ls:List Nd}(hb:(Aaa (clOf cl k) 2&&Aia d n)=true)(ht:tyElem P t=some (e,9,104))(hzv:zeroOf P e=some zv)
 (hzs:zv.cells.size=9) (hx:Ev n σ True x s) (hO:OwnK e D base w ks s) (hy:Ev n σ True y (.slice (some ⟨b',o',none⟩) q q')) (hq:ls.length=q) (hn:RowAt w b' o' news) (hK:KRow w (fun b=>D b∧some b≠s.ownBlock) ls news)
 (hlen:ks.length+ls.length≤10000000) (hbase:base≤w.heap.size) (hD:D w.heap.size)
 (h:∀ a' c' w',OwnK e D base w' (ks++ls) (.slice a' (ks++ls).length c')→w.grownBy w' s.ownBlock→SR P Z ops cl lv W0 n K (k+1) rest ((d,True,.slice a' (ks++ls).length c') :: σ) w') :
 SR P Z ops cl lv W0 n K k (⟨some d,.call { callee:=.builtin .append,args:=#[x,y],argTypes:=#[t,t] },ty,pos,after,none⟩::rest) σ w:=by
 obtain ⟨xs,h1,h2,h3⟩:=id hO;subst hq;have ones:=Vob hK;refine Qb hb ht hzv hzs Od hx h1 hy (Uca hK) hn ones (by simp only [maxLen];omega) O hbase fun a' c' w' ho hg hat=>?_;have:=h a' c' w' (hO.append h1 h2 hK hD ho hg hat) hg;rwa [Ala] at this
end
theorem Qjc{l:List Nd}{i:Nat}(f:Nd→Nat)(h:i<l.length):((l.take (i+1)).map f).sum=((l.take i).map f).sum+f l[i]:=by
 rw [Usb f l i h,Bea];simp
theorem Wfe:∀ (t:Nd) (v:Ga) (D:Nat→Prop) (w:Aa),Kd w D t.kids v→count t≤4611686018427387904→Ret PP 21 #[ndV t v] w fun r w'=>r = .int .i64 (count t:Nat)∧G w w':=by
 refine Nd.ind fun t ih v D w hk hc=>?_;obtain ⟨p,c,rfl,hcap,hks⟩:=hk;have g:=G.refl w;have hlen:=Vv t;refine WK 21 [0] Tryz.func21 ?_;refine BM fun _ w1 _ _ g E=>?_;refine AU ?_;refine Je (fun (i:Nat) u1=>(i≤t.kids.length)∧G w1 u1) [(1,True,_),(2,True,_)] (fun (i:Nat)=>[(3,True,.int .i64 ((1+((t.kids.take i).map count).sum:Nat):Int)),(4,True,.int .i64 i)]) (fun (i:Nat)=>t.kids.length-i) (0) ⟨by simp,G.refl _⟩ (Za J (Za J (Za J (Za J (Zo _))))) ?_;rintro i u1 ⟨hI1,gl1⟩;have g:=g.trans gl1;replace E:=E.grow gl1;refine Zn (Zn (Zu (Zx J (Xm Zf J (Xr Zi J (E.g0.at_ J) (Waa Zd J (Znb J J (Ze (kq (Qk J (fun h1=>?_) (fun h1=>?_)))))))))));replace h1:i<t.kids.length:=by simp only [Wkg] at h1;omega
 obtain ⟨b,o,rfl,hD,xs,hR,hX⟩:=hks O;obtain ⟨p',c',hcell,hkid⟩:=Wlb hR hX h1;have hck:=Xca h1;refine Yp (kq (Zn (Yz (Zu (Zx J (Xm Zf J (Xr Zi J (E.g0.at_ J) (Zx J (Qab Zd J J O (Vx Zj J J (hcell.grow g) (Ub J (Yd Zfd Ve (aqc J aq0) J) (ih _ (Asa h1) _ _ _ (hkid.grow g) O) (fun w18 g18=>?_))))))))))));have gl1:=gl1.trans (g18);replace E:=E.grow g18;refine AU ?_;refine SK [3,4,1,2] ?_;refine Ze (fun a ha=>?_);have e:((1+((t.kids.take i).map count).sum:Nat):Int)+(count t.kids[i]:Nat)=((1+((t.kids.take (i+1)).map count).sum:Nat):Int):=by rw [Qjc count h1];omega
 rw [e] at ha;exact ⟨i+1,ha,⟨h1,gl1⟩,O⟩;replace h1:i=t.kids.length:=by simp only [Wlg] at h1;omega
 refine RTN ?_;refine ⟨?_,g⟩;rw [h1,Baa,← Zoa]
theorem Yjc{α:Type}{l:List α}{i:Nat}(h:i<l.length):l.take (i+1)=l.take i++[l[i]]:=by
 rw [Bfa,Aca h];rfl
def RetNd(t:Nd)(base:Nat)(r:Ga)(w:Aa):Prop:=∃ p c,r=ndV t (.slice p t.kids.length c)∧Kd w (fun b=>base≤b) t.kids (.slice p t.kids.length c)
def listN(t:Nd):List Nd:=para (fun t l=>t::l.flatten) t
theorem Jvb(t:Nd):listN t=t::t.kids.flatMap listN:=by rw [listN,Xxa,List.flatMap_def];rfl
theorem Xbb:∀ t,(listN t).length=count t:=by
 refine Nd.ind fun t ih=>?_;rw [Jvb,Zoa,Ama,Bta,Bia];congr 2;exact Bua ih
theorem Jwb{l:List Nd}{i:Nat}(h:i<l.length):(l.take (i+1)).flatMap listN=(l.take i).flatMap listN++listN l[i]:=by rw [Yjc h,Bva];simp only [Aqa,List.flatMap_nil,Bda]
theorem Ykc(l:List Nd)(i:Nat):((l.take i).flatMap listN).length=((l.take i).map count).sum:=by
 rw [Bta];congr 1;exact Bua fun k _=>Xbb k
theorem Wkd:∀ (t:Nd) (v:Ga) (D:Nat→Prop) (w:Aa),Kd w D t.kids v→count t≤1000000→Ret PP 18 #[ndV t v] w fun r w'=>Kd w' (fun b=>D b∨w.heap.size≤b) (listN t) r∧G w w':=by
 refine Nd.ind fun t ih v D w hk hc=>?_;obtain ⟨p,c,rfl,hcap,hks⟩:=hk;have hlen:=Vv t;have hk0:Kd w (fun b=>D b∧b<w.heap.size) t.kids (.slice p t.kids.length c):=Kd.lt ⟨p,c,rfl,hcap,hks⟩;have g:=G.refl w;refine Ji (m:=23) Tryz.func18 J J [(0,True,_)] (Za J (Zo _)) ?_;refine Zn (Zu (Xza J (Zc J) J ?_));intro b1 w1 N1;have l1:=N1.ge g;have g:=g.trans N1.g;have E:=(Zla _).new N1;refine Xc J (Ze (kq (Zn (Zu (Vx Zj J J E.g0.row (Yf _ J Zd Zp (pqc J pq0) J J ?_))))));intro b6 w6 N6;have l6:=N6.ge g;have g:=g.trans N6.g;replace E:=E.new N6;have x6_1:=E.ne 0 1 rfl rfl rfl;have hO:OwnK 26 (fun b=>(D b∧b<w.heap.size)∨Dx w.heap.size [b1] b) w.heap.size w6 [t] (.slice (some ⟨b6,0,none⟩) 1 1):=Yea E.g0 l6 ((hk0.grow g).mono fun k hk _=>⟨.inl hk,O⟩) (.inr ⟨l6,by simp;omega⟩);refine Xc J (Ze (kq (Zn (Zn (Zu (Xc J (Ze (kq (Yz (?_))))))))));replace E:=E.sel [false,true];have hnd1:=E.1;refine Ul (fun (x:Nat×Option Addr×Nat) u1=>match x with|⟨i,a,ca⟩=>(i≤t.kids.length∧OwnK 26 (fun b=>(D b∧b<w.heap.size)∨Dx w.heap.size [b1] b) w.heap.size u1 (t::(t.kids.take i).flatMap listN) (.slice a (t::(t.kids.take i).flatMap listN).length ca))∧G w u1) _ [(1,True,_),(2,True,_)] (fun (x:Nat×Option Addr×Nat)=>match x with|⟨i,a,ca⟩=>[(3,True,.slice a (t::(t.kids.take i).flatMap listN).length ca),(4,True,.int .i64 i)]) (fun (x:Nat×Option Addr×Nat)=>match x with|⟨i,a,ca⟩=>t.kids.length-i) ((0,some ⟨b6,0,none⟩,1)) ⟨⟨Aha _,hO⟩,g⟩ (Ya (blkE E.g0) (Xg _)) (Za J (Za J (Za J (Za J (Zo _))))) ?_;clear E;rintro ⟨i,a,ca⟩ u1 ⟨hI1,gl1⟩ ⟨B1,_⟩;replace B1:Blk _ _ _ _:=B1;have g:=gl1;obtain ⟨hi,hO⟩:=hI1
 have E:=Xoa (L:=[(b1,_,_)]) hnd1 ⟨B1,trivial⟩ rfl;refine Zn (Zn (Zu (Zx J (Xm Zf J (Xr Zi J (E.g0.at_ J) (Waa Zd J (Znb J J (Ze (kq (Qk J (fun h1=>?_) (fun h1=>?_)))))))))));replace h1:i<t.kids.length:=by simp only [Wkg] at h1;omega
 obtain ⟨b,o,rfl,hD,xs,hR,hX⟩:=hks O;obtain ⟨p',c',hcell,hkid⟩:=Wlb hR hX h1;have hck:=Xca h1;have hcl:=Ykc t.kids i;have hu:=g.size;have hB1lt:=E.g0.lt;have hOlt:=hO.lt;refine Yp (kq (Zn (Yz (Zu (Zx J (Xm Zf J (Xr Zi J (E.g0.at_ J) (Zx J (Qab Zd J J O (Vx Zj J J (hcell.grow g) (Wm J (Yd Xjc Ve (aqc J aq0) J) (ih _ (Asa h1) _ (fun b=>D b∧b<w.heap.size) _ (hkid.old g) O) ?_)))))))))));rintro v20 w20 ⟨⟨p2,c2,rfl,hc2,hr2⟩,g20⟩;refine ⟨fun _=>g20,?_⟩;have g:=g.trans g20;have hln:=Xbb t.kids[i];have hpos:=Vha t.kids[i];obtain ⟨b2,o2,rfl,hD2,ys,hR2,hX2⟩:=hr2 O;replace E:=E.grow g20;have hO:=hO.grow (g20);have hOo:=hO;refine Qdd J Zd Zp J (Zc J) hO (Zc J) J hR2 (hX2.mono fun k hk _=>⟨hk.elim .inl fun h=>.inr ⟨by have h:u1.heap.size≤k:=h;omega,by have h:u1.heap.size≤k:=h;simp;omega⟩,fun he=>by have:=hOlt k he.symm;have hge:=hO.ge k he.symm;rcases hk with ⟨_,h⟩|h <;> omega⟩) (by rw [Ama];omega) (by have:=g.size;omega) (.inr ⟨by have:=g.size;omega,by have:=E.g0.lt;simp;omega⟩) ?_
 intro a21 c21 w21 hO hg21;replace E:=E.keep hg21 (Aya.2 ⟨(hOo.ne (by rintro (h|h);exact absurd h.2 O;simp [Dx] at h)),Bwa _⟩);have g:=Wuc g hg21 (fun k hk=>hOo.ge k hk);refine Xc J (Ze (kq (Zu (Zx J (Vta J J O (Xc J (Wp [(3,_,_),(4,_,_),(1,_,_),(2,_,_)] (Za J (Za J (Za J (Za J (Zo _))))) (Ze (fun a ha=>?_)))))))));rw [show t::(t.kids.take i).flatMap listN++listN t.kids[i]=t::(t.kids.take (i+1)).flatMap listN by rw [Jwb h1];rfl] at ha hO;exact ⟨(i+1,a21,c21),ha,⟨⟨h1,hO⟩,g⟩,(Ya (blkE E.g0) (Xg _)),by show t.kids.length-(i+1)<t.kids.length-i;omega⟩;replace h1:i=t.kids.length:=by simp only [Wlg] at h1;omega
 subst h1;rw [Baa,← Jvb] at hO;refine Jp J (kq (Zn (Zu (Zx J (Xc J (Ze (kq (Xw (Qd J J ?_)))))))));refine ⟨?_,g⟩;rw [Baa,← Jvb];exact hO.kd fun b hb=>hb.elim (fun h=>.inl h.1) (fun h=>.inr h.1)
def typeNames:List (List UInt8):=[[105,110,116],[98,111,111,108],[91,93,105,110,116],[99,104,97,110],[102,117,110,99],[109,117,116,101,120],[114,119,109,117,116,101,120],[103,114,111,117,112],[111,110,99,101],[97,116,111,109,105,99]]
def Ur(s:List UInt8):Bool:=anyS typeNames s
def Jsa(t:Nd):Bool:=decide ((t.kids.length:Int)=0)
def Zza(t:Nd):Bool:=bif decide (t.kind=8) then nameB t.text&&Jsa t else bif decide (t.kind=7) then Ur t.text&&Jsa t else false
def Uua:List (List UInt8):=[[124,124],[38,38],[61,61],[33,61],[60],[60,61],[62],[62,61],[43],[45],[42],[47],[37]]
def typTab:List (List UInt8×Int):=[([105,110,116],1),([98,111,111,108],2),([91,93,105,110,116],5),([99,104,97,110],6),([102,117,110,99],7),([109,117,116,101,120],8),([114,119,109,117,116,101,120],9),([103,114,111,117,112],10),([111,110,99,101],11),([97,116,111,109,105,99],12)]
def typKind(s:List UInt8):Int:=(typTab.lookup s).getD 0
def ofF(t:Nd):Ty×Bool :=
 bif !Jsa t then (ty0,false)
 else bif decide (t.kind=9) then (ty0,decide (t.text=[]))
 else bif decide (t.kind=8) then (bif nameB t.text then (⟨4,t.text⟩,true) else (ty0,false))
 else bif decide (t.kind=7) then (bif Ur t.text then (⟨typKind t.text,[]⟩,true) else (ty0,false))
 else (ty0,false)
theorem Wge:((List.range 13).all fun i=>anyS [[],[110,105,108],[99,104,97,110,32,105,110,116],[102,117,110,99,40,41]] (typTexts.getD i []) || (Ur (typTexts.getD i [])&&decide (typKind (typTexts.getD i [])=(i:Int))))=true:=KR
theorem Xta{i:Nat}(hi:i<13){s:List UInt8}(hs:anyS [[],[110,105,108],[99,104,97,110,32,105,110,116],[102,117,110,99,40,41]] s=false)(h:typTexts.getD i []=s):Ur s=true∧typKind s=i:=by
 have:=Ana.1 Wge i (Bba.2 hi);rw [h,hs] at this;simpa using this
theorem Whe:(typeNames.all fun s=>anyS [[99,104,97,110],[102,117,110,99]] s || (List.range 13).any fun i=>decide (typTexts.getD i []=s))=true:=KR
theorem Xua{s:List UInt8}(h1:decide (s=[99,104,97,110])=false)(h2:decide (s=[102,117,110,99])=false)(h:∀ i,i<13→typTexts.getD i []≠s):Ur s=false:=by
 cases hn:Ur s;rfl;have:=Ana.1 Whe s ((Jub _ _).1 hn);simp only [anyS,h1,h2,Aja,Bool.false_or,List.any_eq_true,Wkg,Bba] at this;obtain ⟨i,hi,he⟩:=this;exact absurd he (h i hi)
theorem Voa{s:List UInt8}(h:anyS [[],[110,105,108],[99,104,97,110,32,105,110,116],[102,117,110,99,40,41]] s=true):Ur s=false:=by
 have:=(Jub _ _).1 h;simp only [List.mem_cons,List.not_mem_nil,or_false] at this;rcases this with rfl|rfl|rfl|rfl <;> rfl
theorem Qle(t:Nd)(p:Option Addr)(c:Nat)(w:Aa)(hL:Laid w)(hb3:10≤w.heap.size)(hTx:LaidT w)(hlen:t.kids.length≤1000000):Ret PP 85 #[ndV t (.slice p t.kids.length c)] w fun v w'=>v = .tuple #[tyV (ofF t).1,.bool (ofF t).2]∧G w w':=by
 have g:=G.refl w;refine WK 56 [0] Tryz.func85 ?_;refine BM fun _ w1 _ _ g E=>?_;refine AN fun b2 w2 _ _ g E=>?_;refine IF (fun h1=>?_) fun h1=>?_
 have hq:Jsa t=false:=by
  have:0<t.kids.length:=by simp only [Wkg] at h1;omega
  unfold Jsa;rw [Wlg];omega
 refine AS fun _ _ _ g E=>?_;refine RTN ?_;refine ⟨?_,g⟩;have h0:Str [] = .string ⟨#[]⟩:=rfl;unfold ofF;simp only [hq,Afa,Aga,h1,Wpg,Wog]
 first
 | rfl
 | (rw [Wmg h6];rfl)
 | (rw [Wmg h7];rfl)
 | (rw [Voa h11];rfl)
 | (obtain ⟨e1,e2⟩:=Xta h12 h11 (Wmg h13);rw [e1,e2];rfl)
 | (rw [Xua h6 h7 (fun j hj=>hI1.2 j O)];rfl)
 have hq:Jsa t=true:=by
  unfold Jsa;rw [Wkg];simp only [Wlg] at h1;omega
 refine IF (fun h2=>?_) fun h2=>?_;(try simp only [bsimp] at h2);refine AU ?_;refine Yr (rowR (some b2)) [3,3,0,3,1,3] [0,0,2,6,1,31] mix KR [0,1,2,3,4,5] J ?_;have g:=gdr g;replace E:=E.dr;refine Zt 0 J J (fun _=>Uh [_,_] Xd J Vd (Va) J) (Zt 1 J J (fun _=>Zg Wx (Zc J)) (Ye 2 J J (fun w1 hx=>Zw Xb (Zc J) (fun _=>(E.g1.keep hx (fun h=>E.ne 1 0 J J J (Option.some.inj h))).at_ J)) (Zt 3 J J (fun _=>Wqc (Zc J) Xh) (Zk 4 J J ?_))));refine Zh (L':=[5]) [3,3,0,3,2,3] J J J ?_;refine AS fun _ hgS2 _ g E=>?_;refine Zr (hgS2) ?_;refine Zt 5 J J (fun _=>Wd (Zc J)) (TK [2,3] (Qe (kq (Xw (Zka (rs:=[.cell 2 24,.tmp 3]) (vs:=[_,_]) J J (Zba J Zl J (E.g0.row) (Wua J (Ug))) J ?_)))));refine ⟨?_,g⟩;have h0:Str [] = .string ⟨#[]⟩:=rfl;unfold ofF;simp only [hq,Afa,Aga,h1,h2,Wpg,Wog]
 first
 | rfl
 | (rw [Wmg h6];rfl)
 | (rw [Wmg h7];rfl)
 | (rw [Voa h11];rfl)
 | (obtain ⟨e1,e2⟩:=Xta h12 h11 (Wmg h13);rw [e1,e2];rfl)
 | (rw [Xua h6 h7 (fun j hj=>hI1.2 j O)];rfl)
 refine IF (fun h3=>?_) fun h3=>?_;(try simp only [bsimp] at h3);refine AU ?_;refine CP (Wid _ _ (hL.grow g) (by have:=g.size;omega)) (fun w23 g23=>?_);have g:=g.trans g23;replace E:=E.grow g23;refine Ze (kq (Qk J (fun h4=>?_) (fun h4=>?_)));(try simp only [bsimp] at h4);refine Zn (Zu (Xm Wx J (Xr Xb J (E.g1.at_ J) (Zsa Xd Vd (pqc J (pqc J pq0)) J J (AS fun _ _ _ g E=>?_)))));refine RTN ?_;refine ⟨?_,g⟩;have h0:Str [] = .string ⟨#[]⟩:=rfl;unfold ofF;simp only [hq,Afa,Aga,h1,h2,h3,h4,Wpg,Wog]
 first
 | rfl
 | (rw [Wmg h6];rfl)
 | (rw [Wmg h7];rfl)
 | (rw [Voa h11];rfl)
 | (obtain ⟨e1,e2⟩:=Xta h12 h11 (Wmg h13);rw [e1,e2];rfl)
 | (rw [Xua h6 h7 (fun j hj=>hI1.2 j O)];rfl)
 refine AS fun _ _ _ g E=>?_;refine RTN ?_;refine ⟨?_,g⟩;have h0:Str [] = .string ⟨#[]⟩:=rfl;unfold ofF;simp only [hq,Afa,Aga,h1,h2,h3,h4,Wpg,Wog]
 first
 | rfl
 | (rw [Wmg h6];rfl)
 | (rw [Wmg h7];rfl)
 | (rw [Voa h11];rfl)
 | (obtain ⟨e1,e2⟩:=Xta h12 h11 (Wmg h13);rw [e1,e2];rfl)
 | (rw [Xua h6 h7 (fun j hj=>hI1.2 j O)];rfl)
 refine IF (fun h5=>?_) fun h5=>?_;(try simp only [bsimp] at h5);refine IF (fun h6=>?_) fun h6=>?_;(try simp only [bsimp] at h6);refine AS fun _ _ _ g E=>?_;refine RTN ?_;refine ⟨?_,g⟩;have h0:Str [] = .string ⟨#[]⟩:=rfl;unfold ofF;simp only [hq,Afa,Aga,h1,h2,h3,h5,h6,Wpg,Wog]
 first
 | rfl
 | (rw [Wmg h6];rfl)
 | (rw [Wmg h7];rfl)
 | (rw [Voa h11];rfl)
 | (obtain ⟨e1,e2⟩:=Xta h12 h11 (Wmg h13);rw [e1,e2];rfl)
 | (rw [Xua h6 h7 (fun j hj=>hI1.2 j O)];rfl)
 refine IF (fun h7=>?_) fun h7=>?_;(try simp only [bsimp] at h7);refine AS fun _ _ _ g E=>?_;refine RTN ?_;refine ⟨?_,g⟩;have h0:Str [] = .string ⟨#[]⟩:=rfl;unfold ofF;simp only [hq,Afa,Aga,h1,h2,h3,h5,h6,h7,Wpg,Wog]
 first
 | rfl
 | (rw [Wmg h6];rfl)
 | (rw [Wmg h7];rfl)
 | (rw [Voa h11];rfl)
 | (obtain ⟨e1,e2⟩:=Xta h12 h11 (Wmg h13);rw [e1,e2];rfl)
 | (rw [Xua h6 h7 (fun j hj=>hI1.2 j O)];rfl)
 refine AU ?_;refine' OR [1,2,3] (fun hb8=>?y8) (kq ?n8)
 case y8 =>
  refine AU ?_;refine' OR [1,2,3] (fun hb9=>?y9) knr
  case y9 =>
   refine AU ?_;refine' OR [1,2,3] (fun hb10=>?y10) knr
   case y10 =>
    refine AU ?_;refine SK [37,1,2,3] ?_;exact Ze knr
 case n8 =>
  refine Qk J (fun h11=>?_) (fun h11=>?_);replace h11:(anyS [[],[110,105,108],[99,104,97,110,32,105,110,116],[102,117,110,99,40,41]] t.text)=true:=h11;refine Zn (Zu (Zsa Xd Vd pq0 J J (AS fun _ _ _ g E=>?_)));refine Xc J (Ze (kq (Xw (Zka (rs:=[.cell 2 24,.tmp 3]) (vs:=[_,_]) J J (Zba J Zl J (E.g0.row) (Wua J (Ug))) J ?_))));refine ⟨?_,g⟩;have h0:Str [] = .string ⟨#[]⟩:=rfl;unfold ofF;simp only [hq,Afa,Aga,h1,h2,h3,h5,h6,h7,h11,Wpg,Wog]
  first
  | rfl
  | (rw [Wmg h6];rfl)
  | (rw [Wmg h7];rfl)
  | (rw [Voa h11];rfl)
  | (obtain ⟨e1,e2⟩:=Xta h12 h11 (Wmg h13);rw [e1,e2];rfl)
  | (rw [Xua h6 h7 (fun j hj=>hI1.2 j O)];rfl)
  replace h11:(anyS [[],[110,105,108],[99,104,97,110,32,105,110,116],[102,117,110,99,40,41]] t.text)=false:=h11;refine Yp (kq (Zn (Zu (Vx Unb J J (hTx.grow g) (Zx J (Ze (kq (Yz (Je (fun (i:Nat) u1=>(i≤13∧∀ j,j<i→typTexts.getD j []≠t.text)∧G w2 u1) [(1,True,_),(2,True,_),(43,True,_)] (fun (i:Nat)=>[(44,True,.int .i64 i)]) (fun (i:Nat)=>13-i) (0) ⟨⟨Aha _,fun j hj=>absurd hj (Ava j)⟩,G.refl _⟩ (Za J (Za J (Za J (Za J (Zo _))))) ?_)))))))));rintro i u1 ⟨hI1,gl1⟩;have g:=g.trans gl1;replace E:=E.grow gl1;refine Zn (Zu (Znb J J (Ze (kq (Zn (Qk J (fun h12=>?_) (fun h12=>?_)))))));replace h12:i<13:=by simp only [Wkg] at h12;omega
  refine Yp (kq (Zn (Yz (Zn (Zu (Zx J (Zs J (fun _=>Zce Zod (Zc J) (Zc J) (fun _=>O) (fun _=>by show (typTexts.map Str).toArray[((i:Nat):Int).toNat]? = _;rw [List.getElem?_toArray];exact Qje (k:=(i:Int)) O O)) (Xc J (Xc J (Ze (kq (Zn (Zu (Zx J (Xm Wx J (Xr Xb J (E.g1.at_ J) (Uke J J (?_))))))))))))))))));refine Ze (kq (Qk J (fun h13=>?_) (fun h13=>?_)));replace h13:(decide (typTexts.getD i []=t.text))=true:=h13;refine AS fun _ ga _ g E=>?_;first|replace gl1:=Yn gl1 ga O|clear gl1|skip
  refine RTN ?_;refine ⟨?_,g⟩;have h0:Str [] = .string ⟨#[]⟩:=rfl;unfold ofF;simp only [hq,Afa,Aga,h1,h2,h3,h5,h6,h7,h11,h12,h13,Wpg,Wog]
  first
  | rfl
  | (rw [Wmg h6];rfl)
  | (rw [Wmg h7];rfl)
  | (rw [Voa h11];rfl)
  | (obtain ⟨e1,e2⟩:=Xta h12 h11 (Wmg h13);rw [e1,e2];rfl)
  | (rw [Xua h6 h7 (fun j hj=>hI1.2 j O)];rfl)
  replace h13:(decide (typTexts.getD i []=t.text))=false:=h13;refine AU ?_;refine SK [44,1,2,43] ?_;refine Ze (fun a ha=>?_)
  exact ⟨i+1,ha,⟨⟨h12,fun j hj=>by
   by_cases e:j=i;subst e;simpa using h13;exact hI1.2 j O⟩,gl1⟩,O⟩
  replace h12:i=13:=by simp only [Wlg] at h12;omega
  refine AS fun _ ga _ g E=>?_;first|replace gl1:=Yn gl1 ga O|clear gl1|skip
  refine RTN ?_;refine ⟨?_,g⟩;have h0:Str [] = .string ⟨#[]⟩:=rfl;unfold ofF;simp only [hq,Afa,Aga,h1,h2,h3,h5,h6,h7,h11,h12,Wpg,Wog]
  first
  | rfl
  | (rw [Wmg h6];rfl)
  | (rw [Wmg h7];rfl)
  | (rw [Voa h11];rfl)
  | (obtain ⟨e1,e2⟩:=Xta h12 h11 (Wmg h13);rw [e1,e2];rfl)
  | (rw [Xua h6 h7 (fun j hj=>hI1.2 j O)];rfl)
 refine AS fun _ _ _ g E=>?_;refine RTN ?_;refine ⟨?_,g⟩;have h0:Str [] = .string ⟨#[]⟩:=rfl;unfold ofF;simp only [hq,Afa,Aga,h1,h2,h3,h5,Wpg,Wog]
 first
 | rfl
 | (rw [Wmg h6];rfl)
 | (rw [Wmg h7];rfl)
 | (rw [Voa h11];rfl)
 | (obtain ⟨e1,e2⟩:=Xta h12 h11 (Wmg h13);rw [e1,e2];rfl)
 | (rw [Xua h6 h7 (fun j hj=>hI1.2 j O)];rfl)
structure Fld where
  name:List UInt8
  ty:Ty
def fldCells(f:Fld):List Ga:=[Str f.name,.int .i64 f.ty.kind,Str f.ty.name]
theorem Wcc(f:Fld):(fldCells f).length=3:=rfl
section
variable {α β:Type} (f:α→Option β)
def mapO:List α→Option (List β)
 | []=>some []
 | a::l=>match f a,mapO l with
  | some b,some r=>some (b::r)
  | _,_=>none
theorem Quc:∀ (l:List α) (a:α),mapO f (l++[a])=match mapO f l,f a with
  | some r,some b=>some (r++[b])
  | _,_=>none
 | [],a=>by simp only [mapO,List.nil_append];cases f a <;> rfl
 | x::l,a=>by
  rw [List.cons_append,mapO,Quc l a,mapO];cases f x <;> cases mapO f l <;> cases f a <;> rfl
theorem Voc:∀ (l:List α) (a:α),a∈l→f a=none→mapO f l=none
 | x::l,a,h,hn=>by
  rw [mapO];rcases List.mem_cons.1 h with rfl|h;rw [hn];rw [Voc l a h hn];cases f x <;> rfl
theorem Vpc:∀ (l:List α) (r:List β),mapO f l=some r→r.length=l.length
 | [],r,h=>by injection h with h;subst h;rfl
 | x::l,r,h=>by
  rw [mapO] at h
  cases h1:f x with
  | none=>rw [h1] at h;cases h
  | some b =>
   cases h2:mapO f l with
   | none=>rw [h1,h2] at h;cases h
   | some r'=>rw [h1,h2] at h;injection h with h;subst h;rw [Ama,Vpc l r' h2];rfl
end
def kid0(t:Nd):Nd:=t.kids.getD 0 nd0
def Wwa(f:Nd):Option Fld:=bif !decide (f.kind=3) || !decide ((f.kids.length:Int)=1) then none else bif (ofF (kid0 f)).2 then some ⟨f.text,(ofF (kid0 f)).1⟩ else none
def isStr(name:List UInt8)(d:Nd):Bool:=!(!decide (d.kind=2) || !decide (d.text=name))
def Js(t:Nd)(name:List UInt8):List Fld×Bool:=match t.kids.find? (isStr name) with
 | none=>([],false)
 | some d=>match mapO Wwa d.kids with
  | none=>([],false)
  | some l=>(l,true)
theorem Wqf{name:List UInt8}{l:List Nd}{i:Nat}(hi:i<l.length)(h1:∀ j,(hj:j<l.length)→j<i→isStr name l[j]=false)(h2:isStr name l[i]=true):l.find? (isStr name)=some l[i]:=by
 rw [Bna];exact ⟨h2,i,hi,rfl,fun j hj=>by rw [h1 j O hj];rfl⟩
theorem Wrf{name:List UInt8}{l:List Nd}(h1:∀ j,(hj:j<l.length)→isStr name l[j]=false):l.find? (isStr name)=none:=by
 rw [Boa];intro x hx;obtain ⟨j,hj,rfl⟩:=Aua hx;rw [h1 j hj];simp
def FldV(r:List Fld×Bool)(v:Ga)(w:Aa):Prop:=∃ l,v = .tuple #[l,.bool r.2]∧RowF fldCells w r.1 l
theorem Wsf{w:Aa}{base:Nat}{s:Ga}{l:List Fld}(h:w.ownsRow base 134 3 s l.length (l.flatMap fldCells)):RowF fldCells w l s:=Wjd h rfl
theorem Wtf{t:Nd}(h:t.kids.length=1):∃ h0:0<t.kids.length,kid0 t=t.kids[0]:=⟨O,by simp [kid0,Aea,Aca (show 0<t.kids.length by omega)]⟩
theorem Qme{l:List Nd}{k:Nat}(hk:k<l.length){r:List Fld}{b:Fld}(h:mapO Wwa (l.take k)=some r)(hb:Wwa l[k]=some b):mapO Wwa (l.take (k+1))=some (r++[b]):=by
 rw [Yjc hk,Quc,h,hb]
theorem Qne{w:Aa}{base:Nat}{l:List Fld}(f:Fld){a:Option Addr}{c:Nat}(h:w.ownsRow base 134 3 (.slice a (l.length+1) c) (l.length+1) (l.flatMap fldCells++fldCells f)):w.ownsRow base 134 3 (.slice a (l++[f]).length c) (l++[f]).length ((l++[f]).flatMap fldCells):=by
 rw [Bva,Ala,Aqa,List.flatMap_nil,Bda];exact h
theorem Qed(t:Nd)(name:List UInt8)(v:Ga)(D:Nat→Prop)(w:Aa)(hL:Laid w)(hb3:10≤w.heap.size)(hTx:LaidT w)(hk:Kd w D t.kids v)(hc:count t≤1000000):Ret PP 158 #[ndV t v,Str name] w fun r w'=>FldV (Js t name) r w'∧G w w':=by
 obtain ⟨p,c,rfl,hcap,hks⟩:=hk;have g:=G.refl w;have hlen:=Vv t;refine WK 65 [0,1] Tryz.func158 ?_;refine BM fun _ w2 _ _ g E=>?_;refine AU ?_;refine Je (fun (i:Nat) u1=>(i≤t.kids.length∧∀ j,(hj:j<t.kids.length)→j<i→isStr name t.kids[j]=false)∧G w2 u1) [(1,True,_),(14,True,_),(15,True,_)] (fun (i:Nat)=>[(16,True,.int .i64 i)]) (fun (i:Nat)=>t.kids.length-i) (0) ⟨⟨Aha _,fun j _ hj=>absurd hj (Ava j)⟩,G.refl _⟩ (Za J (Za J (Za J (Za J (Zo _))))) ?_;rintro i u1 ⟨hI1,gl1⟩;have g:=g.trans gl1;replace E:=E.grow gl1;refine Zn (Zu (Znb J J (Ze (kq (Zn (Qk J (fun h1=>?_) (fun h1=>?_)))))));replace h1:i<t.kids.length:=by simp only [Wkg] at h1;omega
 obtain ⟨b,o,rfl,hD,xs,hR,hX⟩:=hks O;obtain ⟨p',c',hcell,hkid⟩:=Wlb hR hX h1;have hck:=Xca h1;have hkl:=Vv t.kids[i];refine Yp (kq (Zn (Yz (Zn (Zu (Qab Zd J J O (Vx Zj J J (hcell.grow g) (AN fun _ _ ga _ g E=>?_))))))));have l7_gl1:=ga.ge gl1;have gl1:=gl1.trans (ga.g);refine AS fun wS1 ga _ g E=>?_;first|replace gl1:=Yn gl1 ga O|clear gl1|skip
 refine IF (fun h2=>?_) fun h2=>?_;replace h2:(!decide (t.kids[i].kind=2) || !decide (t.kids[i].text=name))=true:=h2;refine AU ?_;refine SK [16,1,14,15] ?_;refine Ze (fun a ha=>?_)
 exact ⟨i+1,ha,⟨⟨h1,fun j hj1 hj=>by
  by_cases e:j=i;subst e;unfold isStr;rw [h2];rfl;exact hI1.2 j hj1 O⟩,gl1⟩,O⟩
 replace h2:(!decide (t.kids[i].kind=2) || !decide (t.kids[i].text=name))=false:=h2;have hf:=Wqf h1 hI1.2 (by unfold isStr;rw [h2];rfl)
 have hN:Js t name=match mapO Wwa t.kids[i].kids with
  | none=>([],false)
  | some l=>(l,true):=by unfold Js;rw [hf]
 obtain ⟨p2,c2,hpe,hcap2,hks2⟩:=hkid;injection hpe with hpe _ hce;subst hpe hce;have hb2:=E.g1.lt;have hb7:=E.g0.lt;refine AU ?_;refine Je (fun (x:Nat×Option Addr×Nat×List Fld) u2=>match x with|⟨k,a,ca,l⟩=>(k≤t.kids[i].kids.length∧mapO Wwa (t.kids[i].kids.take k)=some l∧u2.ownsRow wS1.heap.size 134 3 (.slice a l.length ca) l.length (l.flatMap fldCells))∧G wS1 u2) [(1,True,_),(14,True,_),(15,True,_),(16,True,_),(30,True,_),(31,True,_)] (fun (x:Nat×Option Addr×Nat×List Fld)=>match x with|⟨k,a,ca,l⟩=>[(8,True,.slice a l.length ca),(32,True,.int .i64 k)]) (fun (x:Nat×Option Addr×Nat×List Fld)=>match x with|⟨k,a,ca,l⟩=>t.kids[i].kids.length-k) ((0,none,0,[])) ⟨⟨Aha _,rfl,Qt _ _ _ _⟩,G.refl _⟩ (Za J (Za J (Za J (Za J (Za J (Za J (Za J (Za J (Zo _))))))))) ?_;rintro ⟨k,a,ca,l⟩ u2 ⟨hI2,gl2⟩;have g:=g.trans gl2;have gl1:=gl1.trans gl2;replace E:=E.grow gl2;obtain ⟨hk,hm,hO⟩:=hI2;have hll:=Vpc Wwa _ _ hm;rw [Bca] at hll;refine Zn (Zu (Znb J J (Ze (kq (Zn (Qk J (fun h3=>?_) (fun h3=>?_)))))));replace h3:k<t.kids[i].kids.length:=by simp only [Wkg] at h3;omega
 obtain ⟨b2,o2,rfl,hD2,xs2,hR2,hX2⟩:=hks2 O;obtain ⟨p3,c3,hcell3,hkid3⟩:=Wlb hR2 hX2 h3;have hck3:=Xca h3;refine Yp (kq (Zn (Yz (Zn (Zu (Qab Zd J J O (Vx Zj J J (hcell3.grow g) (?_))))))));have hlt10:=fun k hk=>(hO.lt k hk).2;refine AN fun b10 _ N10 _ g E=>?_;have l10_gl1:=N10.ge gl1;have l10_gl2:=N10.ge gl2;have gl1:=gl1.trans (N10.g);have gl2:=gl2.trans (N10.g);have hO:=Xk hO (N10.g);have ne10:(Ia a l.length ca).ownBlock≠some b10:=fun h=>by have:=hlt10 _ h;have:=N10.at_;omega
 refine AS fun _ ga _ g E=>?_;first|replace gl1:=Yn gl1 ga O|clear gl1|skip
 first|replace gl2:=Yn gl2 ga O|clear gl2|skip
 have hO:=Yo hO ga (.inr ne10);refine IF (fun h4=>?_) fun h4=>?_;replace h4:(!decide (t.kids[i].kids[k].kind=3) || !decide ((t.kids[i].kids[k].kids.length:Int)=1))=true:=h4;have hbad:=Voc Wwa _ _ (Asa h3) (by unfold Wwa;rw [h4];rfl);refine Zn (Zu (Xc J (Xc J (Ze (kq (Xw (Yqb (ts:=[4,5]) (vs:=[_,_]) J J J ?_)))))));rw [hN,hbad];exact ⟨⟨_,rfl,Vnc _⟩,g⟩;replace h4:(!decide (t.kids[i].kids[k].kind=3) || !decide ((t.kids[i].kids[k].kids.length:Int)=1))=false:=h4
 have h1k:t.kids[i].kids[k].kids.length=1:=by
  simp only [Ara,Bool.not_eq_false',Wkg] at h4;omega
 obtain ⟨h0k,ek⟩:=Wtf h1k;obtain ⟨p4,c4,hpe4,_,hks4⟩:=hkid3;injection hpe4 with hpe4 _ hce4;subst hpe4 hce4;obtain ⟨b4,o4,rfl,hD4,xs4,hR4,hX4⟩:=hks4 O;obtain ⟨p5,c5,hcell5,_⟩:=Wlb hR4 hX4 h0k;have hck5:=Vv t.kids[i].kids[k].kids[0];have hck6:=Xca h0k;refine Yp (kq (Zn (Zu (Xm Zf J (Xr Zi J (E.g0.at_ J) (Zs J (fun _=>Vaa Zd (Zc J) Xh (fun _=>by show (0:Int)≤0∧(0:Int)<((t.kids[i].kids[k].kids.length:Nat):Int);omega)) (Vx Zj J J (hcell5.grow g) (Ub J (Yd Xkc Ve (aqc J aq0) J) (Qle _ _ _ _ (hL.grow g) (by have:=g.size;omega) (hTx.grow g) O) (fun w50 g50=>?_)))))))));have g:=g.trans g50;have gl1:=gl1.trans (g50);have gl2:=gl2.trans (g50);replace E:=E.grow g50;have hO:=Xk hO (g50);refine AU ?_;have hlt11:=fun k hk=>(hO.lt k hk).2;refine AN fun b11 _ N11 _ g E=>?_;have l11_gl1:=N11.ge gl1;have l11_gl2:=N11.ge gl2;have gl1:=gl1.trans (N11.g);have gl2:=gl2.trans (N11.g);have hO:=Xk hO (N11.g);have ne11:(Ia a l.length ca).ownBlock≠some b11:=fun h=>by have:=hlt11 _ h;have:=N11.at_;omega
 refine AS fun _ ga _ g E=>?_;first|replace gl1:=Yn gl1 ga O|clear gl1|skip
 first|replace gl2:=Yn gl2 ga O|clear gl2|skip
 have hO:=Yo hO ga (.inr ne11);refine IF (fun h5=>?_) fun h5=>?_;replace h5:(!(ofF t.kids[i].kids[k].kids[0]).2)=true:=h5;have hbad:=Voc Wwa _ _ (Asa h3) (by unfold Wwa;rw [h4,ek];simp only [Bool.not_eq_true'] at h5;rw [h5];rfl);refine Zn (Zu (Xc J (Xc J (Ze (kq (Xw (Yqb (ts:=[4,5]) (vs:=[_,_]) J J J ?_)))))));rw [hN,hbad];exact ⟨⟨_,rfl,Vnc _⟩,g⟩;replace h5:(!(ofF t.kids[i].kids[k].kids[0]).2)=false:=h5;have hgood:Wwa t.kids[i].kids[k]=some ⟨t.kids[i].kids[k].text,(ofF t.kids[i].kids[k].kids[0]).1⟩:=by unfold Wwa;rw [h4,ek];simp only [Bool.not_eq_false'] at h5;rw [h5];rfl
 refine Yp (kq (Zu (Zx J (Xm Wx J (Xr Xb J (E.g1.at_ J) (Vx Zl J J E.g0.row (Zsa Qqa Jpb (pqc J (pqc J pq0)) J J (CN fun _ _ ga _ g E=>?_))))))));have l60_gl1:=ga.ge gl1;have l60_gl2:=ga.ge gl2;have gl2:=gl2.trans (ga.g);have hO:=Xk hO (ga.g);refine Qb J Xgb Qqa J Od (Zc J) hO (Zc J) J E.g0.row J (by simp only [maxLen];omega) O (by have:=gl2.size;omega) ?_;intro a' c' w61 hO' hg61 hat;have hOg:=fun k hk=>(hO.lt k hk).1;have g:=Wuc g hg61 (fun k hk=>by have:=hOg k hk;omega);replace gl2:=Wuc gl2 hg61 hOg;replace E:=E.sel [false,false,false,true,true];replace E:=E.keep hg61 (Aya.2 ⟨((fun he=>by have:=hOg _ he.symm;omega)),Aya.2 ⟨((fun he=>by have:=hOg _ he.symm;omega)),Bwa _⟩⟩);have hO2:=Qne ⟨t.kids[i].kids[k].text,(ofF t.kids[i].kids[k].kids[0]).1⟩ hO';refine AU ?_;refine SK [8,32,1,14,15,16,30,31] ?_;refine Ze (fun a ha=>?_);refine ⟨(k+1,a',c',l++[⟨t.kids[i].kids[k].text,(ofF t.kids[i].kids[k].kids[0]).1⟩]),?_,⟨⟨h3,Qme h3 hm hgood,hO2⟩,gl2⟩,by show t.kids[i].kids.length-(k+1)<t.kids[i].kids.length-k;omega⟩;simpa using ha;replace h3:k=t.kids[i].kids.length:=by simp only [Wlg] at h3;omega
 subst h3;rw [Baa] at hm;refine RTN ?_;rw [hN,hm];exact ⟨⟨_,rfl,Wsf hO⟩,g⟩;replace h1:i=t.kids.length:=by simp only [Wlg] at h1;omega
 subst h1;refine RTN ?_;have hN:Js t name=([],false):=by unfold Js;rw [Wrf fun j hj=>hI1.2 j hj O]
 rw [hN];exact ⟨⟨_,rfl,Vnc _⟩,g⟩
def opAr:List (List UInt8):=[[43],[45],[42],[47],[37]]
def opLt:List (List UInt8):=[[60],[60,61],[62],[62,61]]
def opEq:List (List UInt8):=[[61,61],[33,61]]
def opLo:List (List UInt8):=[[38,38],[124,124]]
def binT(op:List UInt8)(a b:Ty):Ty×Bool :=
 bif anyS opAr op then bif tyEqB a tInt&&tyEqB b tInt then (tInt,true) else (ty0,false)
 else bif anyS opLt op then bif tyEqB a tInt&&tyEqB b tInt then (tBool,true) else (ty0,false)
 else bif anyS opEq op then bif compB a b then (tBool,true) else (ty0,false)
 else bif anyS opLo op then bif tyEqB a tBool&&tyEqB b tBool then (tBool,true) else (ty0,false)
 else (ty0,false)
theorem Vqc(a b y:Ty)(p q:Nat)(w:Aa)(hp:Blk w p 24 (tyCells a))(hq:Blk w q 24 (tyCells b)):Ret PP 159 #[tyV y,.pointer (some ⟨p,0,none⟩),.pointer (some ⟨q,0,none⟩)] w fun v w'=>v = .bool (tyEqB a y&&tyEqB b y)∧G w w':=by
 have g:=G.refl w;refine WK 13 [0,1,2] Tryz.func159 ?_;refine Zn (Zu (BM fun _ _ _ _ g E=>?_));refine Xc J (Ze (kq (Zn (Zu (Vx Zl J J (by first|exact (hp.grow g).row|exact (hq.grow g).row|exact E.g0.at_ J|exact E.g0.row) (Vx Zl J J E.g0.row (Zs J (fun _=>Qy Wf (Zc J) (Zc J) J) (Zx J (Xz J J J (Zq Zl (Zc J) J (fun _=>by first|exact (hp.grow g).row|exact (hq.grow g).row|exact E.g0.at_ J|exact E.g0.row)) (Xz J J J (Zq Zl (Zc J) J (fun _=>E.g0.row)) (Zv J J J (fun _=>Qy Wf (Zz J id) (Zz J id) J) (Zs J (fun _=>Ww (Zc J) (Zz J id)) (Xc J (Ze (kq (Xw (Qd J J ?_)))))))))))))))));exact ⟨rfl,g⟩
theorem Wuf(op:List UInt8)(a b:Ty)(w:Aa)(hL:Laid w)(hb3:10≤w.heap.size):Ret PP 140 #[Str op,tyV a,tyV b] w fun v w'=>v = .tuple #[tyV (binT op a b).1,.bool (binT op a b).2]∧G w w':=by
 have g:=G.refl w;refine WK 49 [0,1,2] Tryz.func140 ?_;refine Zn (Zu (BM fun _ _ _ _ g E=>?_));refine BN fun _ _ _ _ g E=>?_;refine AN fun _ _ _ _ g E=>?_;refine Xc J (Ze (kq (Zn (Zu (Zsa Xd Vd (pqc J pq0) J J (Zsa Xd Vd (pqc J pq0) J J (AN fun _ _ _ _ g E=>?_)))))));refine AN fun _ _ _ _ g E=>?_;refine AS fun _ _ _ g E=>?_;refine AS fun _ _ _ g E=>?_;refine Ze (kq (Zn (Zu (Zs J (fun _=>Qyb (aq0) (aqc J (aqc J aq0))) (Xc J (Ze (kq (Zn (Zn (Zu (Zx J (Ze (kq (Yz (Zn (Zn (Zu (Uke J J (?_)))))))))))))))))));refine Xc J (Ze (kq (?_)));refine' Zbe [(4,_,_),(5,_,_),(6,_,_),(7,_,_),(8,_,_),(9,_,_),(10,_,_),(14,_,_)] (Za J (Za J (Za J (Za J (Za J (Za J (Za J (Za J (Za J (Zo _)))))))))) J (fun hb1=>?y1) (kq ?n1)
 case y1 =>
  refine AU ?_;refine' OR [4,5,6,7,8,9,10,14] (fun hb2=>?y2) knr
  case y2 =>
   refine AU ?_;refine' OR [4,5,6,7,8,9,10,14] (fun hb3=>?y3) knr
   case y3 =>
    refine AU ?_;refine' OR [4,5,6,7,8,9,10,14] (fun hb4=>?y4) knr
    case y4 =>
     refine AU ?_;refine SK [15,4,5,6,7,8,9,10,14] ?_;exact Ze knr
 case n1 =>
  refine IF (fun h5=>?_) fun h5=>?_;(try simp only [bsimp] at h5);refine AU ?_;refine Ub J (Yd Wia (Zc J) (aqc J aq0) J) (Vqc a b tInt _ _ _ E.g4 E.g3) (fun w23 g23=>?_);have g:=g.trans g23;replace E:=E.grow g23;refine IF (fun h6=>?_) fun h6=>?_;(try simp only [bsimp] at h6);refine AS fun _ _ _ g E=>?_;refine RTN ?_;refine ⟨?_,g⟩;unfold binT;simp only [anyS,opAr,opLt,opEq,opLo,h5,h6,Wpg,Wog];rfl;refine AS fun _ _ _ g E=>?_;refine RTN ?_;refine ⟨?_,g⟩;unfold binT;simp only [anyS,opAr,opLt,opEq,opLo,h5,h6,Wpg,Wog];rfl;refine AU ?_;refine' OR [4,5,6,7,8,9,10,14] (fun hb7=>?y7) (kq ?n7)
  case y7 =>
   refine AU ?_;refine' OR [4,5,6,7,8,9,10,14] (fun hb8=>?y8) knr
   case y8 =>
    refine AU ?_;refine' OR [4,5,6,7,8,9,10,14] (fun hb9=>?y9) knr
    case y9 =>
     refine AU ?_;refine SK [25,4,5,6,7,8,9,10,14] ?_;exact Ze knr
  case n7 =>
   refine IF (fun h10=>?_) fun h10=>?_;(try simp only [bsimp] at h10);refine AU ?_;refine Ub J (Yd Wia (Zc J) (aqc J aq0) J) (Vqc a b tInt _ _ _ E.g4 E.g3) (fun w32 g32=>?_);have g:=g.trans g32;replace E:=E.grow g32;refine IF (fun h11=>?_) fun h11=>?_;(try simp only [bsimp] at h11);refine AS fun _ _ _ g E=>?_;refine RTN ?_;refine ⟨?_,g⟩;unfold binT;simp only [anyS,opAr,opLt,opEq,opLo,h5,h10,h11,Wpg,Wog];rfl;refine AS fun _ _ _ g E=>?_;refine RTN ?_;refine ⟨?_,g⟩;unfold binT;simp only [anyS,opAr,opLt,opEq,opLo,h5,h10,h11,Wpg,Wog];rfl;refine AU ?_;refine' OR [4,5,6,7,9,10,14] (fun hb12=>?y12) (kq ?n12)
   case y12 =>
    refine AU ?_;refine SK [34,4,5,6,7,9,10,14] ?_;exact Ze knr
   case n12 =>
    refine IF (fun h13=>?_) fun h13=>?_;(try simp only [bsimp] at h13);refine AU ?_;refine CP (Qge _ _ _ (hL.grow g) (by have:=g.size;omega)) (fun w39 g39=>?_);have g:=g.trans g39;replace E:=E.grow g39;refine IF (fun h14=>?_) fun h14=>?_;(try simp only [bsimp] at h14);refine AS fun _ _ _ g E=>?_;refine RTN ?_;refine ⟨?_,g⟩;unfold binT;simp only [anyS,opAr,opLt,opEq,opLo,h5,h10,h13,h14,Wpg,Wog];rfl;refine AS fun _ _ _ g E=>?_;refine RTN ?_;refine ⟨?_,g⟩;unfold binT;simp only [anyS,opAr,opLt,opEq,opLo,h5,h10,h13,h14,Wpg,Wog];rfl;refine AU ?_;refine' OR [6,7,9,10] (fun hb15=>?y15) (kq ?n15)
    case y15 =>
     refine AU ?_;refine SK [41,6,7,9,10] ?_;exact Ze knr
    case n15 =>
     refine IF (fun h16=>?_) fun h16=>?_;(try simp only [bsimp] at h16);refine AU ?_;refine Ub J (Yd Wia (Zc J) (aqc J aq0) J) (Vqc a b tBool _ _ _ E.g4 E.g3) (fun w46 g46=>?_);have g:=g.trans g46;replace E:=E.grow g46;refine IF (fun h17=>?_) fun h17=>?_;(try simp only [bsimp] at h17);refine AS fun _ _ _ g E=>?_;refine RTN ?_;refine ⟨?_,g⟩;unfold binT;simp only [anyS,opAr,opLt,opEq,opLo,h5,h10,h13,h16,h17,Wpg,Wog];rfl;refine AS fun _ _ _ g E=>?_;refine RTN ?_;refine ⟨?_,g⟩;unfold binT;simp only [anyS,opAr,opLt,opEq,opLo,h5,h10,h13,h16,h17,Wpg,Wog];rfl;refine AS fun _ _ _ g E=>?_;refine RTN ?_;refine ⟨?_,g⟩;unfold binT;simp only [anyS,opAr,opLt,opEq,opLo,h5,h10,h13,h16,Wpg,Wog];rfl
theorem Zke(op:List UInt8)(a b:Ty)(w:Aa):Ret PP 20 #[Str op,tyV a,tyV b] w fun v w'=>v = .tuple #[tyV (binT op a b).1,.bool (binT op a b).2]∧G w w':=by
 have g:=G.refl w;refine WK 62 [0,1,2] Tryz.func20 ?_;refine BM fun _ _ _ _ g E=>?_;refine BN fun _ _ _ _ g E=>?_;refine AN fun _ _ _ _ g E=>?_;refine AN fun _ _ _ _ g E=>?_;refine AN fun _ _ _ _ g E=>?_;refine AS fun _ _ _ g E=>?_;refine AS fun _ _ _ g E=>?_;refine AU ?_;refine' OR [4,5,6,7,8,9,12] (fun hb1=>?y1) (kq ?n1)
 case y1 =>
  refine AU ?_;refine' OR [4,5,6,7,8,9,12] (fun hb2=>?y2) knr
  case y2 =>
   refine AU ?_;refine' OR [4,5,6,7,8,9,12] (fun hb3=>?y3) knr
   case y3 =>
    refine AU ?_;refine' OR [4,5,6,7,8,9,12] (fun hb4=>?y4) knr
    case y4 =>
     refine AU ?_;refine SK [13,4,5,6,7,8,9,12] ?_;exact Ze knr
 case n1 =>
  refine IF (fun h5=>?_) fun h5=>?_;(try simp only [bsimp] at h5);refine IF (fun h6=>?_) fun h6=>?_;replace h6:(tyEqB a tInt&&tyEqB b tInt)=true:=h6;refine AS fun _ _ _ g E=>?_;refine RTN ?_;refine ⟨?_,g⟩;unfold binT;simp only [anyS,opAr,opLt,opEq,opLo,h5,h6,Wpg,Wog];rfl;replace h6:(tyEqB a tInt&&tyEqB b tInt)=false:=h6;refine AS fun _ _ _ g E=>?_;refine RTN ?_;refine ⟨?_,g⟩;unfold binT;simp only [anyS,opAr,opLt,opEq,opLo,h5,h6,Wpg,Wog];rfl;refine AU ?_;refine' OR [4,5,6,7,8,9,12] (fun hb7=>?y7) (kq ?n7)
  case y7 =>
   refine AU ?_;refine' OR [4,5,6,7,8,9,12] (fun hb8=>?y8) knr
   case y8 =>
    refine AU ?_;refine' OR [4,5,6,7,8,9,12] (fun hb9=>?y9) knr
    case y9 =>
     refine AU ?_;refine SK [28,4,5,6,7,8,9,12] ?_;exact Ze knr
  case n7 =>
   refine IF (fun h10=>?_) fun h10=>?_;(try simp only [bsimp] at h10);refine IF (fun h11=>?_) fun h11=>?_;replace h11:(tyEqB a tInt&&tyEqB b tInt)=true:=h11;refine AS fun _ _ _ g E=>?_;refine RTN ?_;refine ⟨?_,g⟩;unfold binT;simp only [anyS,opAr,opLt,opEq,opLo,h5,h10,h11,Wpg,Wog];rfl;replace h11:(tyEqB a tInt&&tyEqB b tInt)=false:=h11;refine AS fun _ _ _ g E=>?_;refine RTN ?_;refine ⟨?_,g⟩;unfold binT;simp only [anyS,opAr,opLt,opEq,opLo,h5,h10,h11,Wpg,Wog];rfl;refine AU ?_;refine' OR [4,5,6,7,9,12] (fun hb12=>?y12) (kq ?n12)
   case y12 =>
    refine AU ?_;refine SK [42,4,5,6,7,9,12] ?_;exact Ze knr
   case n12 =>
    refine IF (fun h13=>?_) fun h13=>?_;(try simp only [bsimp] at h13);refine AU ?_;refine CP (Qie _ _ _) (fun w47 g47=>?_);have g:=g.trans g47;replace E:=E.grow g47;refine IF (fun h14=>?_) fun h14=>?_;(try simp only [bsimp] at h14);refine AS fun _ _ _ g E=>?_;refine RTN ?_;refine ⟨?_,g⟩;unfold binT;simp only [anyS,opAr,opLt,opEq,opLo,h5,h10,h13,h14,Wpg,Wog];rfl;refine AS fun _ _ _ g E=>?_;refine RTN ?_;refine ⟨?_,g⟩;unfold binT;simp only [anyS,opAr,opLt,opEq,opLo,h5,h10,h13,h14,Wpg,Wog];rfl;refine AU ?_;refine' OR [4,5,6,7,9] (fun hb15=>?y15) (kq ?n15)
    case y15 =>
     refine AU ?_;refine SK [49,4,5,6,7,9] ?_;exact Ze knr
    case n15 =>
     refine IF (fun h16=>?_) fun h16=>?_;(try simp only [bsimp] at h16);refine IF (fun h17=>?_) fun h17=>?_;replace h17:(tyEqB a tBool&&tyEqB b tBool)=true:=h17;refine AS fun _ _ _ g E=>?_;refine RTN ?_;refine ⟨?_,g⟩;unfold binT;simp only [anyS,opAr,opLt,opEq,opLo,h5,h10,h13,h16,h17,Wpg,Wog];rfl;replace h17:(tyEqB a tBool&&tyEqB b tBool)=false:=h17;refine AS fun _ _ _ g E=>?_;refine RTN ?_;refine ⟨?_,g⟩;unfold binT;simp only [anyS,opAr,opLt,opEq,opLo,h5,h10,h13,h16,h17,Wpg,Wog];rfl;refine AS fun _ _ _ g E=>?_;refine RTN ?_;refine ⟨?_,g⟩;unfold binT;simp only [anyS,opAr,opLt,opEq,opLo,h5,h10,h13,h16,Wpg,Wog];rfl
theorem Ysa(y:Ty):(tyCells y).length=2:=rfl
def Jta(s:List UInt8):Bool:=decide (s=[76,111,99,107]) || decide (s=[85,110,108,111,99,107])
def mthF(y:Ty)(s:List UInt8):List Ty×Ty×Bool :=
 bif !tyValidB y then ([],ty0,false)
 else bif decide (y.kind=8) then ([],ty0,Jta s)
 else bif decide (y.kind=9) then ([],ty0,(Jta s || decide (s=[82,76,111,99,107])) || decide (s=[82,85,110,108,111,99,107]))
 else bif decide (y.kind=10) then (bif decide (s=[65,100,100]) then ([tInt],ty0,true) else ([],ty0,decide (s=[68,111,110,101]) || decide (s=[87,97,105,116])))
 else bif decide (y.kind=11) then (bif decide (s=[68,111]) then ([tFunc],ty0,true) else ([],ty0,false))
 else bif decide (y.kind=12) then (bif decide (s=[76,111,97,100]) then ([],tInt,true) else bif decide (s=[83,116,111,114,101]) then ([tInt],ty0,true) else bif decide (s=[65,100,100]) then ([tInt],tInt,true) else bif decide (s=[67,111,109,112,97,114,101,65,110,100,83,119,97,112]) then ([tInt,tInt],tBool,true) else ([],ty0,false))
 else ([],ty0,false)
def FnV(P:Fa)(q:Int→Bool)(v:Ga)(w:Aa):Prop:=∃ f fs cs,v = .func (.func f) fs cs∧goFn P f=true∧∀ (k:Int) (w':Aa),G w w'→Ret P f (fs ++ #[.int .i64 k]++cs) w' fun r w''=>r = .bool (q k)∧G w' w''
theorem FnV.grow{P:Fa}{q:Int→Bool}{v:Ga}{w w':Aa}(h:FnV P q v w)(g:G w w'):FnV P q v w':=by
 obtain ⟨f,fs,cs,rfl,h1,h2⟩:=h;exact ⟨f,fs,cs,rfl,h1,fun k w'' g'=>h2 k w'' (g.trans g')⟩
theorem Wpa{P:Fa}{q:Int→Bool}{f:Nat}(hgo:goFn P f=true)(h:∀ (k:Int) (w:Aa),Ret P f #[.int .i64 k] w fun r w'=>r = .bool (q k)∧G w w')(w:Aa):FnV P q (.func (.func f) #[] #[]) w :=
 ⟨f,#[],#[],rfl,hgo,fun k w' _=>by simpa using h k w'⟩
section
variable {P:Fa} {Z:List Da→Act→Aa→Prop} {ops:List Oper} {cl:List Nat} {lv:List Bool} {W0:Aa} {n:Nat} {K:Act→Aa→Prop} {k:Nat} {rest:List Oper} {σ:List Ent} {w:Aa} {d:Nat} {ty:Ba} {pos:String} {after:Array Edge}
theorem Wvf{g t:Nat}{want b:Bool}{c0:Prop}{op:Op}{v:Ga}{w':Aa}(hb:(!Aaa (clOf cl k) 0 && !Aaa (clOf cl k) 3&&Aia d n)=true)
 (hgd:((ops.toArray[g]?).bind (·.dst))=some t) (hlk:look σ t=some (c0,.bool b)) (hr:RunV P n σ (c0∧b=want) w op ty v w') (hg:G w w')
 (h:(c0∧b=want)→SR P Z ops cl lv W0 n K (k+1) rest ((d,c0∧b=want,v) :: σ) w') (h':¬ (c0∧b=want)→SR P Z ops cl lv W0 n K (k+1) rest ((d,c0∧b=want,v) :: σ) w) :
 SR P Z ops cl lv W0 n K k (⟨some d,op,ty,pos,after,some (g,want)⟩::rest) σ w:=.mk fun hl a ha=>by
 obtain ⟨h0,h1⟩:=Zia hl;simp only [Aka,Bool.not_eq_true'] at hb;rw [Ama,List.range'_succ];have hw:=Vib (op:=op) (ty:=ty) (pos:=pos) (after:=after) (want:=want) (d:=some d) hgd hlk ha;refine ⟨_,h0,?_⟩;rw [if_neg (fun he=>by rcases he with he|he <;> rw [he] at hb <;> simp at hb)]
 by_cases hh:c0∧b=want;rw [if_pos (hw.2 hh)];exact .inl ⟨v,w',hr _ _ _ _ a ha hh,fun _=>hg,h hh h1 _ (ha.put hb.2 (fun _=>rfl) (fun hn=>absurd hh hn))⟩;rw [if_neg (fun hq=>hh (hw.1 hq))];exact h' hh h1 _ (ha.put hb.2 (fun hq=>absurd hq hh) (fun _=>rfl))
theorem Vrc{g t0:Nat}{want bb:Bool}{c0:Prop}{t e z by_ m:Nat}{ps:Array (Nat×Ea)}{vs:List (Nat×Ga)}{zv:Ga}(l:List Ga)(hb:(!Aaa (clOf cl k) 0 && !Aaa (clOf cl k) 3&&Aia d n)=true)(hgd:((ops.toArray[g]?).bind (·.dst))=some t0)(hlk:look σ t0=some (c0,.bool bb))
 (ht:tyElem P t=some (e,z,by_)) (hz:zeroOf P e=some zv)
 (hx:Vma n σ (c0∧bb=want) ps vs) (hm:(Nat.ble (m*z) 16777216 && !Aaa (m*z) 0&&Aaa vs.length m)=true) (hf:Qnc z 0 vs=some l)
 (h:∀ b w1,G w w1→(c0∧bb=want→Blk w1 b e l)→SR P Z ops cl lv W0 n K (k+1) rest ((d,c0∧bb=want,.slice (some ⟨b,0,none⟩) m m) :: σ) w1) :
 SR P Z ops cl lv W0 n K k (⟨some d,.buildSlice t m ps,ty,pos,after,some (g,want)⟩::rest) σ w:=by
 obtain ⟨hu,i,hi,hsz,_⟩:=Jg ht;obtain ⟨i',hi',hz'⟩:=Qta hz;obtain rfl:i=i':=Option.some.inj (hi.symm.trans hi');simp only [Aka,Bool.not_eq_true'] at hm;have hm1:¬ (m*z>2 ^ 24):=by have:=Nat.le_of_ble_eq_true hm.1.1;omega
 have hm2:¬ (m*z=0):=by intro he;rw [he] at hm;simp at hm
 have hvl:=Bpa hm.2
 have hfill:Instr.fill (fun i=>some (i*z,z)) ((Array.range (m*z)).map (zv.cells[· % zv.cells.size]!)) vs=some l.toArray:=by
  have h1:=Uxb z vs 0 [] ((Array.range (m*z)).map (zv.cells[· % zv.cells.size]!)).toList l hf Os (by simp [hvl]) Os;have:=Vjb _ _ _ _ h1;rwa [Array.toArray_toList] at this
 refine Wvf hb hgd hlk (w':=w.alloc (.cells l.toArray e)) (v:=.slice (some ⟨w.heap.size,0,none⟩) m m) (fun d pos after g a ha hc=>?_) (Yza w e l).g (fun hc=>h _ _ (Yza w e l).g (fun _=>(Yza w e l).blk)) (fun hc=>h _ _ (G.refl w) (fun hq=>absurd hq hc));have hx':=hx a ha hc;simp only [execOp,Instr.buildSlice,Sem.run_bind,run_underlying hu,Ha,sizeOf,typeInfo,run_program,hi,Sem.run_pure,hsz,if_neg hm1,if_neg hm2,zeroValue,hz'];rw [hx',hfill];simp [newRow]
end
section
variable {P:Fa} {n:Nat} {σ:List Ent} {c:Prop} {wb:Aa} {ty:Ba} {v:Ga}
theorem Wld{t e z by_:Nat}{x y:Ea}{o:Option Addr}{m q:Nat}{k:IntKind}(ht:tyElem P t=some (e,z,by_))(h:Ev n σ c x (.slice o m q))(h':Ev n σ c y (.int k 0)) :
 Rd P n σ c wb (.slice t x (some y) none none) ty (.slice o m q):=.mk fun d pos after gd a ha hc w1 _=>by
 obtain ⟨hu,inf,hin,hz,_⟩:=Jg ht;have e2:o.map (fun b=>Addr.add b 0)=o:=by cases o <;> simp [Addr.add]
 simp only [execOp,h a ha hc,h' a ha hc,Instr.sliceAt,Option.map_some,Option.map_none,Sem.run_bind,run_underlying hu,Ha];simp [Instr.slice,run_underlying hu,Instr.sliceBounds,Instr.sliceBound,asIntOf,Wxc hin,e2]
end
def typK(k:Int):Bool:=anyK [7,8] k
def expK(k:Int):Bool:=anyK [28,29,30,31,32,33,35,36,37,27,34,24,25,26,38] k
def stK(k:Int):Bool:=anyK [6,10,11,12,13,14,15,16,17,21,18,19,20,22] k
def memK(l:List Int)(k:Int):Bool:=decide (k∈l)
theorem Qfd(s:List UInt8)(w:Aa)(hL:Laid w)(hb3:10≤w.heap.size):Ret PP 100 #[Str s] w fun v w'=>v = .bool (nameB s)∧G w w':=by
 have g:=G.refl w;refine WK 34 [0] Tryz.func100 ?_;refine AU ?_;refine CL (Zhe s _ (hL.grow g) (by have:=g.size;omega)) ?_;rintro v8 w8 ⟨l,rfl,hT,g8⟩;obtain ⟨a,c,rfl,hr⟩:=Vmc hT;refine ⟨fun _=>g8,?_⟩;have g:=g.trans g8;refine AU ?_;refine Zv J J J (fun _=>Xs Yv (Zz J id) Xh (fun hc=>by have:=Wmg (Aba.1 hc.2).2;omega) (fun hc=>(hr (by have:=Wmg (Aba.1 hc.2).2;omega)).1)) ?_;refine AU ?_;refine Xz J J J (Zw Yk (Zz J id) (fun hc=>(hr (by have:=Wmg (Aba.1 hc.2).2;omega)).2 0 _ J)) ?_;refine AU ?_;refine Zv J J J (fun _=>Xs Yv (Zz J id) Xh (fun hc=>by have:=Wmg (Aba.1 (Aba.1 hc.2).1).2;omega) (fun hc=>(hr (by have:=Wmg (Aba.1 (Aba.1 hc.2).1).2;omega)).1)) ?_;refine AU ?_;refine Xz J J J (Zw Xb (Zz J id) (fun hc=>(hr (by have:=Wmg (Aba.1 (Aba.1 hc.2).1).2;omega)).2 1 _ J)) ?_;refine RTN ?_;refine ⟨Wjg ?_,g⟩;rw [← Whd];rfl
theorem Wnb(k:Int)(w:Aa):Ret PP 104 #[.int .i64 k] w fun v w'=>v = .bool (typK k)∧G w w':=by
 have g:=G.refl w;refine WK 9 [0] Tryz.func104 ?_;refine RTN ?_;exact ⟨rfl,g⟩
theorem Jh(k:Int)(w:Aa):Ret PP 106 #[.int .i64 k] w fun v w'=>v = .bool (expK k)∧G w w':=by
 have g:=G.refl w;refine WK 20 [0] Tryz.func106 ?_;refine AU ?_;refine' OR [2] (fun hb1=>?y1) (kq ?n1)
 case y1 =>
  refine AU ?_;refine' OR [2] (fun hb2=>?y2) knr
  case y2 =>
   refine AU ?_;refine' OR [2] (fun hb3=>?y3) knr
   case y3 =>
    refine AU ?_;refine' OR [2] (fun hb4=>?y4) knr
    case y4 =>
     refine AU ?_;refine' OR [2] (fun hb5=>?y5) knr
     case y5 =>
      refine AU ?_;refine' OR [2] (fun hb6=>?y6) knr
      case y6 =>
       refine AU ?_;refine' OR [2] (fun hb7=>?y7) knr
       case y7 =>
        refine AU ?_;refine' OR [2] (fun hb8=>?y8) knr
        case y8 =>
         refine AU ?_;refine' OR [2] (fun hb9=>?y9) knr
         case y9 =>
          refine AU ?_;refine' OR [2] (fun hb10=>?y10) knr
          case y10 =>
           refine AU ?_;refine' OR [2] (fun hb11=>?y11) knr
           case y11 =>
            refine AU ?_;refine' OR [2] (fun hb12=>?y12) knr
            case y12 =>
             refine AU ?_;refine' OR [2] (fun hb13=>?y13) knr
             case y13 =>
              refine AU ?_;refine' OR [2] (fun hb14=>?y14) knr
              case y14 =>
               refine AU ?_;refine SK [4,2] ?_;exact Ze knr
 case n1 =>
  refine IF (fun h15=>?_) fun h15=>?_;(try simp only [bsimp] at h15);refine RTN ?_;refine ⟨Wjg ?_,g⟩;simp only [expK,anyK];exact (h15).symm;refine RTN ?_;refine ⟨Wjg ?_,g⟩;simp only [expK,anyK];exact (h15).symm
theorem Zzd(k:Int)(w:Aa):Ret PP 107 #[.int .i64 k] w fun v w'=>v = .bool (stK k)∧G w w':=by
 have g:=G.refl w;refine WK 19 [0] Tryz.func107 ?_;refine AU ?_;refine' OR [2] (fun hb1=>?y1) (kq ?n1)
 case y1 =>
  refine AU ?_;refine' OR [2] (fun hb2=>?y2) knr
  case y2 =>
   refine AU ?_;refine' OR [2] (fun hb3=>?y3) knr
   case y3 =>
    refine AU ?_;refine' OR [2] (fun hb4=>?y4) knr
    case y4 =>
     refine AU ?_;refine' OR [2] (fun hb5=>?y5) knr
     case y5 =>
      refine AU ?_;refine' OR [2] (fun hb6=>?y6) knr
      case y6 =>
       refine AU ?_;refine' OR [2] (fun hb7=>?y7) knr
       case y7 =>
        refine AU ?_;refine' OR [2] (fun hb8=>?y8) knr
        case y8 =>
         refine AU ?_;refine' OR [2] (fun hb9=>?y9) knr
         case y9 =>
          refine AU ?_;refine' OR [2] (fun hb10=>?y10) knr
          case y10 =>
           refine AU ?_;refine' OR [2] (fun hb11=>?y11) knr
           case y11 =>
            refine AU ?_;refine' OR [2] (fun hb12=>?y12) knr
            case y12 =>
             refine AU ?_;refine' OR [2] (fun hb13=>?y13) knr
             case y13 =>
              refine AU ?_;refine SK [4,2] ?_;exact Ze knr
 case n1 =>
  refine IF (fun h14=>?_) fun h14=>?_;(try simp only [bsimp] at h14);refine RTN ?_;refine ⟨Wjg ?_,g⟩;simp only [stK,anyK];exact (h14).symm;refine RTN ?_;refine ⟨Wjg ?_,g⟩;simp only [stK,anyK];exact (h14).symm
theorem Wie(l:List Int)(b:Nat)(p:Option Addr)(c:Nat)(k:Int)(w:Aa)(hB:Blk w b 56 [.slice p l.length c])(hp:0<l.length→∃ b o,p=some ⟨b,o,none⟩∧RowAt w b o (l.map (Value.int .i64)))(hl:l.length≤1000) :
 Ret PP 133 #[.int .i64 k,.pointer (some ⟨b,0,none⟩)] w fun v w'=>v = .bool (memK l k)∧G w w':=by
 have g:=G.refl w;refine WK 16 [0,1] Tryz.func133 ?_;refine AU ?_;refine Je (fun (i:Nat) u1=>(i≤l.length∧∀ j,(h:j<l.length)→j<i→l[j]≠k)∧G w u1) [(0,True,_),(6,True,_),(7,True,_)] (fun (i:Nat)=>[(8,True,.int .i64 i)]) (fun (i:Nat)=>l.length-i) (0) ⟨⟨Aha _,fun j _ hj=>absurd hj (Ava j)⟩,G.refl _⟩ (Za J (Za J (Za J (Za J (Zo _))))) ?_;rintro i u1 ⟨hI1,gl1⟩;have g:=g.trans gl1;refine Zn (Zu (Znb J J (Ze (kq (Zn (Qk J (fun h1=>?_) (fun h1=>?_)))))));replace h1:i<l.length:=by simp only [Wkg] at h1;omega
 obtain ⟨b2,o2,rfl,hR⟩:=hp O;have hv:(l.map (Value.int .i64))[i*1]? = some (.int .i64 l[i]):=by simp [h1]
 refine Yp (kq (Zn (Yz (Zn (Zu (Qab Yha J J O (Xr Yk J ((hR.grow g) _ _ hv) (Xc J (Ze (kq (Zn (Zu (Zx J (Zx J (Jwa J J (Ze (kq (Qk J (fun h2=>?_) (fun h2=>?_)))))))))))))))))));simp only [Wkg] at h2;refine RTN ?_;refine ⟨Wjg ?_,g⟩;rw [memK,eq_comm,Wkg,← h2];exact Asa h1;simp only [Wlg] at h2;refine AU ?_;refine SK [8,0,6,7] ?_;refine Ze (fun a ha=>?_);refine ⟨i+1,ha,⟨⟨h1,fun j h hj=>?_⟩,gl1⟩,O⟩;by_cases e:j=i;subst e;exact h2;exact hI1.2 j h O;refine RTN ?_;refine ⟨Wjg ?_,g⟩;rw [memK,eq_comm,Wlg];intro hm;obtain ⟨j,hj,e⟩:=Aua hm;simp only [Wlg] at h1;exact hI1.2 j hj O e
theorem Yta(l:List Int)(b o c:Nat)(w:Aa)(hR:RowAt w b o (l.map (Value.int .i64)))(hl:l.length≤1000):Ret PP 101 #[.slice (some ⟨b,o,none⟩) l.length c] w fun v w'=>FnV PP (memK l) v w'∧G w w':=by
 have g:=G.refl w;refine WK 4 [0] Tryz.func101 ?_;refine Zn (Zu (BM fun _ _ _ _ g E=>?_));refine Xc J (Ze (kq (Zn (Zu (Zs J (fun _=>Qyb (aq0) (aqc J aq0)) (Xc J (Ze (kq (Xw (Qd J J ?_))))))))));refine ⟨⟨_,_,_,rfl,Jeb,fun k w' g'=>?_⟩,g⟩;exact Wie l _ _ _ k w' (E.g0.grow g') (fun _=>⟨b,o,rfl,(hR.grow g).grow g'⟩) hl
theorem Qgd(q r:Int→Bool)(f h:Ga)(b1 b2:Nat)(k:Int)(w:Aa)(h1:Blk w b1 103 [f])(h2:Blk w b2 103 [h])(hF:FnV PP q f w)(hH:FnV PP r h w) :
 Ret PP 134 #[.int .i64 k,.pointer (some ⟨b1,0,none⟩),.pointer (some ⟨b2,0,none⟩)] w fun v w'=>v = .bool (q k || r k)∧G w w':=by
 have g:=G.refl w;obtain ⟨f0,fs0,cs0,rfl,hgo0,hf0⟩:=hF;obtain ⟨f1,fs1,cs1,rfl,hgo1,hf1⟩:=hH;refine Ji (m:=13) Tryz.func134 J J [(0,True,_),(1,True,_),(2,True,_)] (Za J (Za J (Za J (Zo _)))) ?_;refine Zn (Zu (Xc J (Ze (kq (Zn (Zu (Xr Yna J ((h1.grow g).at_ J) (Zx J (Ub J (Yd hgo0 (Zc J) (aqc J aq0) J) (hf0 k _ g) (fun w7 g7=>?_))))))))));have g:=g.trans g7;refine Zx J (Xz J J J (Zw Yna (Zc J) (fun _=>(h2.grow g).at_ J)) (Zv J J J (fun _=>Zm (Zc J)) (Qa J J J (fun _=>(Yd hgo1 (Zz J id) (Yi (Zz J id) (Xj)) J)) (fun hc=>hf1 k _ g) (fun w11 g11=>?_))));have g:=g.trans g11;refine RTN ?_;exact ⟨rfl,g⟩
theorem Ygb(q:Int→Bool)(l:List Int)(f:Ga)(b o c:Nat)(w:Aa)(hF:FnV PP q f w)(hR:RowAt w b o (l.map (Value.int .i64)))(hl:l.length≤1000):Ret PP 105 #[f,.slice (some ⟨b,o,none⟩) l.length c] w fun v w'=>FnV PP (fun k=>q k || memK l k) v w'∧G w w':=by
 have g:=G.refl w;have hF0:=hF;obtain ⟨f0,fs0,cs0,rfl,hgo0,hf0⟩:=hF;refine WK 9 [0,1] Tryz.func105 ?_;refine BM fun _ _ _ _ g E=>?_;refine Xc J (Ze (kq (Zn (Zu (Zx J (CL (Yta l _ _ _ _ (hR.grow g) hl) ?_))))));rintro v7 w7 ⟨hA,g7⟩;refine ⟨fun _=>g7,?_⟩;have g:=g.trans g7;have hA0:=hA;obtain ⟨f1,fs1,cs1,rfl,hgo1,hf1⟩:=hA;replace E:=E.grow g7;have gm:=G.refl w7;refine AN fun _ _ ga _ g E=>?_;have l5_gm:=ga.ge gm;have gm:=gm.trans (ga.g);refine AS fun _ ga _ g E=>?_;first|replace gm:=Yn gm ga O|clear gm|skip
 refine Ze (kq (Zn (Zu (Zs J (fun _=>Qyb (aq0) (aqc J (aqc J aq0))) (Xc J (Ze (kq (Xw (Qd J J ?_)))))))));refine ⟨⟨_,_,_,rfl,Qbb,fun k w' g'=>?_⟩,g⟩;exact Qgd q (memK l) _ _ _ _ k w' (E.g1.grow g') (E.g0.grow g') ((hF0.grow g).grow g') ((hA0.grow gm).grow g')
def Zb(t:Nd)(i:Nat):Nd:=t.kids.getD i nd0
theorem Wc{t:Nd}{i:Nat}(h:i<t.kids.length):Zb t i=t.kids[i]:=by simp [Zb,Aea,Aca h]
def kidsB(t:Nd)(qs:List (Int→Bool)):Bool:=decide (t.kids.length=qs.length)&&(List.range qs.length).all fun i=>(qs.getD i (fun _=>false)) (Zb t i).kind
def everyB(t:Nd)(q:Int→Bool):Bool:=t.kids.all fun k=>q k.kind
theorem Xda(t:Nd)(p:Option Addr)(c:Nat)(D:Nat→Prop)(qs:List (Int→Bool))(vs:List Ga)(b o cap:Nat)(w:Aa)(hk:Kd w D t.kids (.slice p t.kids.length c))(hl:vs.length=qs.length)(hR:RowAt w b o vs)
 (hF:∀ i (h:i<vs.length),FnV PP (qs.getD i (fun _=>false)) vs[i] w) (hc:t.kids.length≤1000000):Ret PP 103 #[ndV t (.slice p t.kids.length c),.slice (some ⟨b,o,none⟩) qs.length cap] w fun v w'=>v = .bool (kidsB t qs)∧G w w':=by
 have g:=G.refl w;obtain ⟨p',c',hpe,_,hks⟩:=hk;injection hpe with hpe _ hce;subst hpe hce;refine WK 30 [0,1] Tryz.func103 ?_;refine BM fun _ w2 _ _ g E=>?_;refine IF (fun h1=>?_) fun h1=>?_
 have hN:kidsB t qs=false:=by
  have:¬ t.kids.length=qs.length:=by simp at h1;omega
  rw [kidsB,Whg this];rfl
 refine RTN ?_;rw [hN];exact ⟨rfl,g⟩;have hle:t.kids.length=qs.length:=by simp at h1;omega
 refine Yp (kq (Zn (Zn (Zu (Zx J (Waa Zga J (Zx J (Ze (kq (Yz (Je (fun (i:Nat) u1=>(i≤qs.length∧∀ j,j<i→(qs.getD j (fun _=>false)) (Zb t j).kind=true)∧G w2 u1) [(2,True,_),(13,True,_),(14,True,_)] (fun (i:Nat)=>[(15,True,.int .i64 i)]) (fun (i:Nat)=>qs.length-i) (0) ⟨⟨Aha _,fun j hj=>absurd hj (Ava j)⟩,G.refl _⟩ (Za J (Za J (Za J (Za J (Zo _))))) ?_)))))))))));rintro i u1 ⟨hI1,gl1⟩;have g:=g.trans gl1;replace E:=E.grow gl1;refine Zn (Zu (Znb J J (Ze (kq (Zn (Qk J (fun h2=>?_) (fun h2=>?_)))))));replace h2:i<qs.length:=by simp only [Wkg] at h2;omega
 obtain ⟨f,fs,cs,hfe,hgo,hf⟩:=hF i O;have hv:=hR i _ (Aca (show i<vs.length by omega));rw [hfe] at hv;obtain ⟨b2,o2,rfl,hD,xs,hR2,hX⟩:=hks O;obtain ⟨p2,c2,hcell,_⟩:=Wlb hR2 hX (show i<t.kids.length by omega);rw [← Wc] at hcell;refine Yp (kq (Zn (Yz (Zn (Zu (Zx J (Qab Zga J J O (Xr Yna J (by have:=Zmb g hv;simpa using this) (Xc J (Xc J (Ze (kq (Zn (Zu (Zx J (Xm Zf J (Xr Zi J (E.g0.at_ J) (?_))))))))))))))))));refine Zx J (Qab Zd J J O (Xm Wh J (Xr Yk J ((hcell.grow g) 0 _ J) (Ub J (Yd hgo (Zc J) (aqc J aq0) J) (hf _ _ g) (fun w27 g27=>?_)))));have g:=g.trans g27;have gl1:=gl1.trans (g27);replace E:=E.grow g27;refine IF (fun h3=>?_) fun h3=>?_;(try simp only [bsimp] at h3);refine RTN ?_;refine ⟨Wjg ?_,g⟩;rw [eq_comm,kidsB,Wig hle,Ata,Bga];exact ⟨i,Bba.2 h2,by simpa using h3⟩;refine AU ?_;refine SK [15,2,13,14] ?_;refine Ze (fun a ha=>?_);refine ⟨i+1,ha,⟨⟨h2,fun j hj=>?_⟩,gl1⟩,O⟩;by_cases e:j=i;subst e;simpa using h3;exact hI1.2 j O;refine RTN ?_;refine ⟨Wjg ?_,g⟩;rw [eq_comm,kidsB,Wig hle,Ata,Ana];intro j hj;exact hI1.2 j (by have:=Bba.1 hj;simp only [Wlg] at h2;omega)
theorem Wob(t:Nd)(p:Option Addr)(c:Nat)(D:Nat→Prop)(q:Int→Bool)(v:Ga)(w:Aa)(hk:Kd w D t.kids (.slice p t.kids.length c))(hF:FnV PP q v w)(hc:t.kids.length≤1000000):Ret PP 102 #[ndV t (.slice p t.kids.length c),.int .i64 0,v] w fun v w'=>v = .bool (everyB t q)∧G w w':=by
 have g:=G.refl w;obtain ⟨p',c',hpe,_,hks⟩:=hk;injection hpe with hpe _ hce;subst hpe hce;obtain ⟨f,fs,cs,rfl,hgo,hf⟩:=hF;refine WK 29 [0,1,2] Tryz.func102 ?_;refine BM fun _ w3 _ _ g E=>?_;refine Xc J (Ze (kq (Zn (Zn (Zu (Xm Zf J (Xr Zi J (E.g0.at_ J) (Waa Zd J (Zx J (Znb J J (Ze (kq (Qk J (fun h1=>?_) (fun h1=>?_))))))))))))))
 ·exfalso;simp only [Wkg] at h1;omega
  done
 refine Yp (kq (Zn (Zn (Zu (Xm Zf J (Xr Zi J (E.g0.at_ J) (Zx J (Zs J (fun _=>Wld Zd (Zc J) (Zc J)) (Waa Zd J (Zx J (Ze (kq (Yz (Je (fun (i:Nat) u1=>(i≤t.kids.length∧∀ j,(h:j<t.kids.length)→j<i→q t.kids[j].kind=true)∧G w3 u1) [(2,True,_),(17,True,_),(18,True,_)] (fun (i:Nat)=>[(19,True,.int .i64 i)]) (fun (i:Nat)=>t.kids.length-i) (0) ⟨⟨Aha _,fun j _ hj=>absurd hj (Ava j)⟩,G.refl _⟩ (Za J (Za J (Za J (Za J (Zo _))))) ?_))))))))))))));rintro i u1 ⟨hI1,gl1⟩;have g:=g.trans gl1;replace E:=E.grow gl1;refine Zn (Zu (Znb J J (Ze (kq (Zn (Qk J (fun h2=>?_) (fun h2=>?_)))))))
 ·replace h2:i<t.kids.length:=by simp only [Wkg] at h2;omega
  obtain ⟨b2,o2,rfl,hD,xs,hR2,hX⟩:=hks O;obtain ⟨p2,c2,hcell,_⟩:=Wlb hR2 hX h2;refine Yp (kq (Zn (Yz (Zn (Zu (Qab Zd J J O (Vx Zj J J (hcell.grow g) (AN fun _ _ ga _ g E=>?_))))))));have l8_gl1:=ga.ge gl1;have gl1:=gl1.trans (ga.g);refine AS fun _ ga _ g E=>?_;first|replace gl1:=Yn gl1 ga O|clear gl1|skip
  refine AU ?_;refine Ub J (Yd hgo (Zc J) (aqc J aq0) J) (hf _ _ g) (fun w26 g26=>?_);have g:=g.trans g26;have gl1:=gl1.trans (g26);replace E:=E.grow g26;refine IF (fun h3=>?_) fun h3=>?_
  ·(try simp only [bsimp] at h3)
   refine RTN ?_;refine ⟨Wjg ?_,g⟩;rw [eq_comm,everyB,Bga];exact ⟨_,Asa h2,by simpa using h3⟩
  refine AU ?_;refine SK [19,2,17,18] ?_;refine Ze (fun a ha=>?_);refine ⟨i+1,ha,⟨⟨h2,fun j h hj=>?_⟩,gl1⟩,O⟩;by_cases e:j=i
  · subst e;simpa using h3
  · exact hI1.2 j h O
 refine RTN ?_;refine ⟨Wjg ?_,g⟩;rw [eq_comm,everyB,Ana];intro x hx;obtain ⟨j,hj,rfl⟩:=Aua hx;exact hI1.2 j hj (by simp only [Wlg] at h2;omega)
def commB(t:Nd):Bool:=bif anyK [9,16] t.kind then true
 else bif anyK [13,11] t.kind then decide (((t.kids.length:Int)-1)=0)&&decide ((Zb t 0).kind=33)
 else bif decide (t.kind=12) then decide (((t.kids.length:Int)-1)=1)&&decide ((Zb t 1).kind=33) else false
theorem Yy{w:Aa}{D:Nat→Prop}{t:Nd}{p:Option Addr}{c:Nat}(hk:Kd w D t.kids (.slice p t.kids.length c)){i:Nat}(h:i<t.kids.length):p=some ⟨pb p,po p,none⟩∧∃ p' c',RowAt w (pb p) (po p+i*9) (ndCells (Zb t i) (.slice p' (Zb t i).kids.length c'))∧Kd w D (Zb t i).kids (.slice p' (Zb t i).kids.length c'):=by
 obtain ⟨p',c',hpe,_,hks⟩:=hk;injection hpe with hpe _ hce;subst hpe hce;obtain ⟨b2,o2,rfl,hD,xs,hR2,hX⟩:=hks O;refine ⟨rfl,?_⟩;rw [Wc h];exact Wlb hR2 hX h
theorem Wwf(t:Nd)(p:Option Addr)(c:Nat)(D:Nat→Prop)(w:Aa)(hk:Kd w D t.kids (.slice p t.kids.length c))(hc:t.kids.length≤1000000):Ret PP 108 #[ndV t (.slice p t.kids.length c)] w fun v w'=>v = .bool (commB t)∧G w w':=by
   have g:=G.refl w
   refine WK 38 [0] Tryz.func108 ?_
   refine BM fun _ _ _ _ g E=>?_
   refine AU ?_
   refine' OR [1,2,3,9] (fun hb1=>?y1) (kq ?n1)
   case y1 =>
    refine AU ?_
    refine SK [10,1,2,3,9] ?_
    exact Ze knr
   case n1 =>
    refine IF (fun h2=>?_) fun h2=>?_
    · replace h2:(anyK [9,16] t.kind)=true:=h2
      refine RTN ?_
      refine ⟨Wjg ?_,g⟩
      unfold commB;simp only [h2,Wpg,Wog] <;> rfl
    replace h2:(anyK [9,16] t.kind)=false:=h2
    refine AU ?_
    refine' OR [1,2,3,9] (fun hb3=>?y3) (kq ?n3)
    case y3 =>
     refine AU ?_
     refine SK [13,1,2,3,9] ?_
     exact Ze knr
    case n3 =>
     refine IF (fun h4=>?_) fun h4=>?_
     · replace h4:(anyK [13,11] t.kind)=true:=h4
       refine Zn (Zu (Zx J (Jwa J J (Zx J (Zv J J J (fun _=>Zg Zf (Zc J)) (Xz J J J (Zw Zi (Zz J id) (fun _=>E.g0.at_ J)) (Zv J J J (fun _=>Xs Zd (Zz J id) Xh (fun hc=>by have:=Wmg hc.2;omega) (fun hc=>(Yy hk (i:=0) (by have:=Wmg hc.2;omega)).1)) (Zv J J J (fun _=>Zg Wh (Zz J id)) (Xz J J J (Zw Yk (Zz J id) (fun hc=>by
 obtain ⟨_,p',c',hcell,_⟩:=Yy hk (i:=0) (by have:=Wmg hc.2;omega)
 exact (hcell.grow g) 0 _ rfl)) (Zv rfl rfl rfl (fun _=>Jza (Zz rfl id) Xh) (Zs rfl (fun _=>Ww (Zc rfl) (Zz rfl id)) (Xc rfl (Ze (kq (Xw (Qd rfl rfl ?_))))))))))))))))
       refine ⟨Wjg ?_,g⟩
       unfold commB;simp only [h2,h4,Wpg,Wog] <;> rfl
     replace h4:(anyK [13,11] t.kind)=false:=h4
     refine IF (fun h5=>?_) fun h5=>?_
     · (try simp only [bsimp] at h5)
       refine Zn (Zu (Zx J (Jwa J J (Zx J (Zv J J J (fun _=>Zg Zf (Zc J)) (Xz J J J (Zw Zi (Zz J id) (fun _=>E.g0.at_ J)) (Zv J J J (fun _=>Xs Zd (Zz J id) Xh (fun hc=>by have:=Wmg hc.2;omega) (fun hc=>(Yy hk (i:=1) (by have:=Wmg hc.2;omega)).1)) (Zv J J J (fun _=>Zg Wh (Zz J id)) (Xz J J J (Zw Yk (Zz J id) (fun hc=>by
 obtain ⟨_,p',c',hcell,_⟩:=Yy hk (i:=1) (by have:=Wmg hc.2;omega)
 exact (hcell.grow g) 0 _ rfl)) (Zv rfl rfl rfl (fun _=>Jza (Zz rfl id) Xh) (Zs rfl (fun _=>Ww (Zc rfl) (Zz rfl id)) (Xc rfl (Ze (kq (Xw (Qd rfl rfl ?_))))))))))))))))
       refine ⟨Wjg ?_,g⟩
       unfold commB;simp only [h2,h4,h5,Wpg,Wog] <;> rfl
     refine RTN ?_
     refine ⟨Wjg ?_,g⟩
     unfold commB;simp only [h2,h4,h5,Wpg,Wog] <;> rfl
def textB'(t:Nd):Bool:=bif anyK [2,3,4,6,11,28,27,34,8] t.kind then nameB t.text
 else bif decide (t.kind=31) then decide (t.text=[45]) || decide (t.text=[33])
 else bif decide (t.kind=32) then anyS Uua t.text
 else bif decide (t.kind=7) then Ur t.text
 else decide (t.text=[])
theorem Qoe(t:Nd)(p:Option Addr)(c:Nat)(w:Aa)(hL:Laid w)(hb3:10≤w.heap.size):Ret PP 83 #[ndV t (.slice p t.kids.length c)] w fun v w'=>v = .bool (textB' t)∧G w w':=by
 have g:=G.refl w;refine WK 64 [0] Tryz.func83 ?_;refine BM fun _ _ _ _ g E=>?_;refine AU ?_;refine' OR [1,2,4] (fun hb1=>?y1) (kq ?n1)
 case y1 =>
  refine AU ?_;refine' OR [1,2,4] (fun hb2=>?y2) knr
  case y2 =>
   refine AU ?_;refine' OR [1,2,4] (fun hb3=>?y3) knr
   case y3 =>
    refine AU ?_;refine' OR [1,2,4] (fun hb4=>?y4) knr
    case y4 =>
     refine AU ?_;refine' OR [1,2,4] (fun hb5=>?y5) knr
     case y5 =>
      refine AU ?_;refine' OR [1,2,4] (fun hb6=>?y6) knr
      case y6 =>
       refine AU ?_;refine' OR [1,2,4] (fun hb7=>?y7) knr
       case y7 =>
        refine AU ?_;refine' OR [1,2,4] (fun hb8=>?y8) knr
        case y8 =>
         refine AU ?_;refine SK [5,1,2,4] ?_;exact Ze knr
 case n1 =>
  refine IF (fun h9=>?_) fun h9=>?_;replace h9:(anyK [2,3,4,6,11,28,27,34,8] t.kind)=true:=h9;refine AU ?_;refine CP (Qfd _ _ (hL.grow g) (by have:=g.size;omega)) (fun w17 g17=>?_);have g:=g.trans g17;replace E:=E.grow g17;refine RTN ?_;refine ⟨Wjg ?_,g⟩;unfold textB';simp only [Uua,Ur,typeNames,anyS,h9,Wpg,Wog] <;> rfl
  replace h9:(anyK [2,3,4,6,11,28,27,34,8] t.kind)=false:=h9;refine IF (fun h10=>?_) fun h10=>?_;(try simp only [bsimp] at h10);refine RTN ?_;refine ⟨Wjg ?_,g⟩;unfold textB';simp only [Uua,Ur,typeNames,anyS,h9,h10,Wpg,Wog] <;> rfl
  refine IF (fun h11=>?_) fun h11=>?_;(try simp only [bsimp] at h11);refine AU ?_;refine' OR [1,2] (fun hb12=>?y12) (kq ?n12)
  case y12 =>
   refine AU ?_;refine' OR [1,2] (fun hb13=>?y13) knr
   case y13 =>
    refine AU ?_;refine' OR [1,2] (fun hb14=>?y14) knr
    case y14 =>
     refine AU ?_;refine' OR [1,2] (fun hb15=>?y15) knr
     case y15 =>
      refine AU ?_;refine' OR [1,2] (fun hb16=>?y16) knr
      case y16 =>
       refine AU ?_;refine' OR [1,2] (fun hb17=>?y17) knr
       case y17 =>
        refine AU ?_;refine' OR [1,2] (fun hb18=>?y18) knr
        case y18 =>
         refine AU ?_;refine' OR [1,2] (fun hb19=>?y19) knr
         case y19 =>
          refine AU ?_;refine' OR [1,2] (fun hb20=>?y20) knr
          case y20 =>
           refine AU ?_;refine' OR [1,2] (fun hb21=>?y21) knr
           case y21 =>
            refine AU ?_;refine' OR [1,2] (fun hb22=>?y22) knr
            case y22 =>
             refine AU ?_;refine' OR [1,2] (fun hb23=>?y23) knr
             case y23 =>
              refine AU ?_;refine SK [32,1,2] ?_;exact Ze knr
  case n12 =>
   refine IF (fun h24=>?_) fun h24=>?_;(try simp only [bsimp] at h24);refine RTN ?_;refine ⟨Wjg ?_,g⟩;unfold textB';simp only [Uua,Ur,typeNames,anyS,h9,h10,h11,h24,Wpg,Wog] <;> rfl
   refine RTN ?_;refine ⟨Wjg ?_,g⟩;unfold textB';simp only [Uua,Ur,typeNames,anyS,h9,h10,h11,h24,Wpg,Wog] <;> rfl
  refine IF (fun h25=>?_) fun h25=>?_;(try simp only [bsimp] at h25);refine AU ?_;refine' OR [1,2] (fun hb26=>?y26) (kq ?n26)
  case y26 =>
   refine AU ?_;refine' OR [1,2] (fun hb27=>?y27) knr
   case y27 =>
    refine AU ?_;refine' OR [1,2] (fun hb28=>?y28) knr
    case y28 =>
     refine AU ?_;refine' OR [1,2] (fun hb29=>?y29) knr
     case y29 =>
      refine AU ?_;refine' OR [1,2] (fun hb30=>?y30) knr
      case y30 =>
       refine AU ?_;refine' OR [1,2] (fun hb31=>?y31) knr
       case y31 =>
        refine AU ?_;refine' OR [1,2] (fun hb32=>?y32) knr
        case y32 =>
         refine AU ?_;refine' OR [1,2] (fun hb33=>?y33) knr
         case y33 =>
          refine AU ?_;refine' OR [1,2] (fun hb34=>?y34) knr
          case y34 =>
           refine AU ?_;refine SK [50,1,2] ?_;exact Ze knr
  case n26 =>
   refine IF (fun h35=>?_) fun h35=>?_;(try simp only [bsimp] at h35);refine RTN ?_;refine ⟨Wjg ?_,g⟩;unfold textB';simp only [Uua,Ur,typeNames,anyS,h9,h10,h11,h25,h35,Wpg,Wog] <;> rfl
   refine RTN ?_;refine ⟨Wjg ?_,g⟩;unfold textB';simp only [Uua,Ur,typeNames,anyS,h9,h10,h11,h25,h35,Wpg,Wog] <;> rfl
  refine RTN ?_;refine ⟨Wjg ?_,g⟩;unfold textB';simp only [Uua,Ur,typeNames,anyS,h9,h10,h11,h25,Wpg,Wog] <;> rfl
end Go.Rk
