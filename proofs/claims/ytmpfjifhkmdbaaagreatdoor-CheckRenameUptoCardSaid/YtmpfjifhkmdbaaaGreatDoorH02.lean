/- Merged texts. Conditions: each text's own. -/
import Derived.Test.YtmpfjifhkmdbaaaGreatDoorH01
import Derived.Shelf.LaysC
import Derived.Shelf.Strconv.ParseIntPublic10
import Derived.KernelRfl
set_option linter.unusedSimpArgs false
set_option linter.unusedVariables false
set_option maxHeartbeats 16000000
set_option maxRecDepth 100000
open Bool renaming and_eq_true_iff→Aba,not_true→Aea,not_false→Afa,and_eq_true→Aja,or_false→Ama,true_and→Aua,or_eq_true→Bea,or_eq_false_iff→Bfa
open Go renaming World→Aa,TypeId→Ba,PanicEntry→Da,Operand→Ea,Program→Fa,Value→Ga
open Go.Result renaming andThen_ok→Ha
open Go.Value renaming slice→Ia
open List renaming getElem?_eq_getElem→Aca,getD_eq_getElem?_getD→Aga,length_append→Aka,length_cons→Ala,flatMap_cons→Ana,all_eq_true→Aoa,getElem_mem→Apa,getElem_of_mem→Aqa,any_cons→Asa,any_nil→Ata,mem_cons_self→Ava,length_drop→Awa,forall_mem_cons→Axa,take_length→Aya,mem_range→Aza,length_take→Baa,append_nil→Bba,sum_append→Bca,take_add_one→Bda,drop_of_length_le→Bha,drop_eq_getElem_cons→Bia,mem_cons_of_mem→Bja,take_succ_cons→Bka,find?_eq_some_iff_getElem→Bla,find?_eq_none→Bma,take_of_length_le→Boa,length_flatMap→Bpa,map_congr_left→Bqa,flatMap_append→Bra,forall_mem_nil→Bsa
open Nat renaming beq→Aaa,le_refl→Ada,zero_le→Aha,blt→Aia,not_lt_zero→Ara,add_comm→Bga,eq_of_beq_eq_true→Bna
namespace Go.Proofs
end Go.Proofs
namespace Go.Rk
open Go.Proofs
open Go Go.RowKit
 class FOF (s j:Nat) (o:outParam Nat):Prop where h:Ym PP s j=some o
 class TY1 (t:Nat):Prop where h:Wv PP t=true
 class TYA (t:Nat) (z:outParam Nat):Prop where h:tyAgg PP t=some z
 class TSZ (t:Nat) (z:outParam Nat):Prop where h:tySize PP t=some z
 class TZE (t:Nat) (z:outParam Ga):Prop where h:zeroOf PP t=some z
 class TST (t:Nat):Prop where h:Vua PP t=true
 class TFL (t:Nat) (z:outParam (List Nat)):Prop where h:Ybc PP t=some z
 class TUB (t:Nat):Prop where h:PP.underlying t=some .bool
 class TPL (t:Nat) (z:outParam (List (Nat×Nat))):Prop where h:Wg PP t=some z
 class TYE (t:Nat) (e z b:outParam Nat):Prop where h:tyElem PP t=some (e,z,b)
instance:FOF 24 0 0:=⟨Uqb⟩
instance:FOF 24 1 1:=⟨Urb⟩
instance:FOF 26 0 0:=⟨Xd⟩
instance:FOF 26 1 1:=⟨Xt⟩
instance:FOF 26 2 2:=⟨Ux⟩
instance:FOF 26 3 3:=⟨Xp⟩
instance:FOF 26 4 4:=⟨Zg⟩
instance:FOF 26 5 5:=⟨Yh⟩
instance:FOF 26 6 7:=⟨Qz⟩
instance:FOF 26 7 8:=⟨Jza⟩
instance:FOF 48 0 0:=⟨Qka⟩
instance:FOF 48 1 1:=⟨Qla⟩
instance:FOF 59 0 0:=⟨Qna⟩
instance:FOF 59 1 9:=⟨Jy⟩
instance:FOF 59 2 10:=⟨Xda⟩
instance:FOF 59 3 11:=⟨Qoa⟩
instance:FOF 59 4 12:=⟨Ql⟩
instance:FOF 59 5 13:=⟨Yv⟩
instance:FOF 59 6 14:=⟨Jz⟩
instance:FOF 59 7 15:=⟨Vw⟩
instance:FOF 61 0 0:=⟨Vxa⟩
instance:FOF 61 1 1:=⟨Jf⟩
instance:FOF 61 2 2:=⟨Jg⟩
instance:FOF 67 0 0:=⟨Vha⟩
instance:FOF 67 1 9:=⟨Via⟩
instance:FOF 67 2 10:=⟨Vja⟩
instance:FOF 67 3 11:=⟨Vka⟩
instance:FOF 67 4 12:=⟨Vla⟩
instance:FOF 67 5 13:=⟨Vma⟩
instance:FOF 67 6 15:=⟨Vna⟩
instance:FOF 67 7 16:=⟨Voa⟩
instance:FOF 75 0 0:=⟨Uka⟩
instance:FOF 75 1 1:=⟨Ula⟩
instance:FOF 75 2 2:=⟨Uma⟩
instance:FOF 75 3 3:=⟨Una⟩
instance:FOF 84 0 0:=⟨Vya⟩
instance:FOF 84 1 1:=⟨Vza⟩
instance:FOF 84 2 3:=⟨Uaa⟩
instance:FOF 84 3 4:=⟨Uba⟩
instance:FOF 94 0 0:=⟨Vkc⟩
instance:FOF 94 1 1:=⟨Vlc⟩
instance:FOF 94 2 2:=⟨Vmc⟩
instance:FOF 96 0 0:=⟨Wsa⟩
instance:FOF 96 1 1:=⟨Wta⟩
instance:FOF 96 2 3:=⟨Wua⟩
instance:FOF 96 3 4:=⟨Wva⟩
instance:FOF 96 4 5:=⟨Wwa⟩
instance:FOF 127 0 0:=⟨Wl⟩
instance:FOF 127 1 1:=⟨Yo⟩
instance:FOF 127 2 2:=⟨Qd⟩
instance:FOF 127 3 3:=⟨Xpa⟩
instance:FOF 134 0 0:=⟨Wdb⟩
instance:FOF 134 1 1:=⟨Web⟩
instance:FOF 162 0 0:=⟨Xmb⟩
instance:FOF 162 1 1:=⟨Xnb⟩
instance:FOF 162 2 2:=⟨Xob⟩
instance:TY1 1:=⟨Zef⟩
instance:TY1 2:=⟨Uje⟩
instance:TY1 3:=⟨Yf⟩
instance:TY1 4:=⟨Zhf⟩
instance:TY1 5:=⟨Uke⟩
instance:TY1 9:=⟨Xc⟩
instance:TY1 20:=⟨Qxc⟩
instance:TY1 22:=⟨Zi⟩
instance:TY1 30:=⟨Yta⟩
instance:TY1 50:=⟨Udb⟩
instance:TY1 51:=⟨Je⟩
instance:TY1 52:=⟨Jm⟩
instance:TY1 53:=⟨Qma⟩
instance:TY1 54:=⟨Wp⟩
instance:TY1 55:=⟨Yl⟩
instance:TY1 56:=⟨Yrb⟩
instance:TY1 57:=⟨Vv⟩
instance:TY1 64:=⟨Wqa⟩
instance:TY1 65:=⟨Xwa⟩
instance:TY1 70:=⟨Us⟩
instance:TY1 73:=⟨Vpa⟩
instance:TY1 79:=⟨Ysb⟩
instance:TY1 82:=⟨Vc⟩
instance:TY1 102:=⟨Ueb⟩
instance:TY1 103:=⟨Zva⟩
instance:TY1 109:=⟨Ufb⟩
instance:TY1 115:=⟨Wcb⟩
instance:TY1 120:=⟨Jid⟩
instance:TY1 123:=⟨Qqb⟩
instance:TY1 130:=⟨Yjc⟩
instance:TY1 146:=⟨Upe⟩
instance:TY1 152:=⟨Jwb⟩
instance:TY1 156:=⟨Ytb⟩
instance:TY1 160:=⟨Ymd⟩
instance:TY1 164:=⟨Ved⟩
instance:TYA 24 2:=⟨Zj⟩
instance:TYA 26 9:=⟨Zf⟩
instance:TYA 48 2:=⟨Jnb⟩
instance:TYA 59 16:=⟨Jrb⟩
instance:TYA 61 4:=⟨Qpa⟩
instance:TYA 67 17:=⟨Uha⟩
instance:TYA 75 4:=⟨Qta⟩
instance:TYA 84 5:=⟨Zaa⟩
instance:TYA 94 3:=⟨Usb⟩
instance:TYA 96 6:=⟨Vqa⟩
instance:TYA 108 13:=⟨Utb⟩
instance:TYA 127 4:=⟨Yic⟩
instance:TYA 134 3:=⟨Qyc⟩
instance:TYA 149 27:=⟨Uub⟩
instance:TYA 162 3:=⟨Wfb⟩
instance:TSZ 1 1:=⟨Qqf⟩
instance:TSZ 2 1:=⟨Zff⟩
instance:TSZ 3 1:=⟨Vca⟩
instance:TSZ 4 1:=⟨Qsf⟩
instance:TSZ 5 1:=⟨Zif⟩
instance:TSZ 9 1:=⟨Jjc⟩
instance:TSZ 20 1:=⟨Ybd⟩
instance:TSZ 22 1:=⟨Vi⟩
instance:TSZ 24 2:=⟨Xk⟩
instance:TSZ 26 9:=⟨Yk⟩
instance:TSZ 30 1:=⟨Uga⟩
instance:TSZ 48 2:=⟨Yfc⟩
instance:TSZ 50 1:=⟨Qib⟩
instance:TSZ 51 1:=⟨Qkb⟩
instance:TSZ 52 1:=⟨Ypb⟩
instance:TSZ 53 1:=⟨Jpb⟩
instance:TSZ 54 1:=⟨Vda⟩
instance:TSZ 55 1:=⟨Vf⟩
instance:TSZ 56 1:=⟨Vmb⟩
instance:TSZ 57 1:=⟨Uz⟩
instance:TSZ 59 16:=⟨Ygc⟩
instance:TSZ 61 4:=⟨Zua⟩
instance:TSZ 64 1:=⟨Vfa⟩
instance:TSZ 65 1:=⟨Wba⟩
instance:TSZ 67 17:=⟨Qqa⟩
instance:TSZ 70 1:=⟨Yza⟩
instance:TSZ 73 1:=⟨Uia⟩
instance:TSZ 75 4:=⟨Jfa⟩
instance:TSZ 79 1:=⟨Xib⟩
instance:TSZ 82 1:=⟨Wra⟩
instance:TSZ 84 5:=⟨Jsb⟩
instance:TSZ 94 3:=⟨Ydd⟩
instance:TSZ 96 6:=⟨Upa⟩
instance:TSZ 102 1:=⟨Qmb⟩
instance:TSZ 103 1:=⟨Yhc⟩
instance:TSZ 108 13:=⟨Yed⟩
instance:TSZ 109 1:=⟨Qob⟩
instance:TSZ 115 1:=⟨Ugb⟩
instance:TSZ 120 1:=⟨Une⟩
instance:TSZ 123 1:=⟨Jtb⟩
instance:TSZ 127 4:=⟨Wgc⟩
instance:TSZ 130 1:=⟨Wjc⟩
instance:TSZ 134 3:=⟨Yhd⟩
instance:TSZ 146 1:=⟨Zkf⟩
instance:TSZ 149 27:=⟨Yid⟩
instance:TSZ 152 1:=⟨Ykc⟩
instance:TSZ 156 1:=⟨Xkb⟩
instance:TSZ 160 1:=⟨Vbd⟩
instance:TSZ 162 3:=⟨Uib⟩
instance:TSZ 164 1:=⟨Jjd⟩
instance:TZE 1 (.nilFunc):=⟨Qrf⟩
instance:TZE 2 (.int .i64 0):=⟨Zgf⟩
instance:TZE 3 (.int .i64 0):=⟨Yec⟩
instance:TZE 4 (.bool false):=⟨Yad⟩
instance:TZE 5 (.int .u8 0):=⟨Zjf⟩
instance:TZE 9 (.string ⟨#[]⟩):=⟨Ule⟩
instance:TZE 20 (.nilIface):=⟨Ycd⟩
instance:TZE 22 (.slice none 0 0):=⟨Vic⟩
instance:TZE 24 (.agg #[.int .i64 0,.string ⟨#[]⟩]):=⟨Yz⟩
instance:TZE 26 (.agg #[.int .i64 0,.string ⟨#[]⟩,.int .i64 0,.int .i64 0,.slice none 0 0,.int .i64 0,.string ⟨#[]⟩,.int .i64 0,.int .i64 0]):=⟨Zp⟩
instance:TZE 30 (.int .i64 0):=⟨Jmb⟩
instance:TZE 48 (.agg #[.int .i64 0,.int .i64 0]):=⟨Zjb⟩
instance:TZE 50 (.pointer none):=⟨Qjb⟩
instance:TZE 51 (.map none):=⟨Qlb⟩
instance:TZE 52 (.map none):=⟨Yqb⟩
instance:TZE 53 (.map none):=⟨Jqb⟩
instance:TZE 54 (.map none):=⟨Vea⟩
instance:TZE 55 (.slice none 0 0):=⟨Zlb⟩
instance:TZE 56 (.slice none 0 0):=⟨Ume⟩
instance:TZE 57 (.slice none 0 0):=⟨Vjc⟩
instance:TZE 59 (.agg #[.int .i64 0,.string ⟨#[]⟩,.int .i64 0,.int .i64 0,.slice none 0 0,.int .i64 0,.string ⟨#[]⟩,.int .i64 0,.int .i64 0,.map none,.map none,.map none,.map none,.slice none 0 0,.slice none 0 0,.slice none 0 0]):=⟨Zmb⟩
instance:TZE 61 (.agg #[.int .i64 0,.slice none 0 0,.int .i64 0,.string ⟨#[]⟩]):=⟨Uf⟩
instance:TZE 64 (.pointer none):=⟨Vga⟩
instance:TZE 65 (.slice none 0 0):=⟨Wca⟩
instance:TZE 67 (.agg #[.int .i64 0,.string ⟨#[]⟩,.int .i64 0,.int .i64 0,.slice none 0 0,.int .i64 0,.string ⟨#[]⟩,.int .i64 0,.int .i64 0,.slice none 0 0,.int .i64 0,.int .i64 0,.slice none 0 0,.int .i64 0,.string ⟨#[]⟩,.int .i64 0,.int .i64 0]):=⟨Qra⟩
instance:TZE 70 (.slice none 0 0):=⟨Wfc⟩
instance:TZE 73 (.pointer none):=⟨Uja⟩
instance:TZE 75 (.agg #[.slice none 0 0,.int .i64 0,.int .i64 0,.bool false]):=⟨Jga⟩
instance:TZE 79 (.nilFunc):=⟨Xjb⟩
instance:TZE 82 (.slice none 0 0):=⟨Yca⟩
instance:TZE 84 (.agg #[.string ⟨#[]⟩,.int .i64 0,.string ⟨#[]⟩,.int .i64 0,.int .i64 0]):=⟨Qu⟩
instance:TZE 94 (.agg #[.int .i64 0,.string ⟨#[]⟩,.int .i64 0]):=⟨Qv⟩
instance:TZE 96 (.agg #[.string ⟨#[]⟩,.int .i64 0,.string ⟨#[]⟩,.int .i64 0,.int .i64 0,.int .i64 0]):=⟨Uqa⟩
instance:TZE 102 (.nilFunc):=⟨Qnb⟩
instance:TZE 103 (.nilFunc):=⟨Zob⟩
instance:TZE 108 (.agg #[.string ⟨#[]⟩,.string ⟨#[]⟩,.string ⟨#[]⟩,.string ⟨#[]⟩,.string ⟨#[]⟩,.string ⟨#[]⟩,.string ⟨#[]⟩,.string ⟨#[]⟩,.string ⟨#[]⟩,.string ⟨#[]⟩,.string ⟨#[]⟩,.string ⟨#[]⟩,.string ⟨#[]⟩]):=⟨Yfd⟩
instance:TZE 109 (.nilFunc):=⟨Qpb⟩
instance:TZE 115 (.slice none 0 0):=⟨Uhb⟩
instance:TZE 120 (.int .u64 0):=⟨Uoe⟩
instance:TZE 123 (.pointer none):=⟨Jub⟩
instance:TZE 127 (.agg #[.string ⟨#[]⟩,.int .i64 0,.slice none 0 0,.slice none 0 0]):=⟨Whc⟩
instance:TZE 130 (.slice none 0 0):=⟨Wkc⟩
instance:TZE 134 (.agg #[.string ⟨#[]⟩,.int .i64 0,.string ⟨#[]⟩]):=⟨Usa⟩
instance:TZE 146 (.nilIface):=⟨Zlf⟩
instance:TZE 149 (.agg #[.string ⟨#[]⟩,.string ⟨#[]⟩,.string ⟨#[]⟩,.string ⟨#[]⟩,.string ⟨#[]⟩,.string ⟨#[]⟩,.string ⟨#[]⟩,.string ⟨#[]⟩,.string ⟨#[]⟩,.string ⟨#[]⟩,.string ⟨#[]⟩,.string ⟨#[]⟩,.string ⟨#[]⟩,.string ⟨#[]⟩,.string ⟨#[]⟩,.string ⟨#[]⟩,.string ⟨#[]⟩,.string ⟨#[]⟩,.string ⟨#[]⟩,.string ⟨#[]⟩,.string ⟨#[]⟩,.string ⟨#[]⟩,.string ⟨#[]⟩,.string ⟨#[]⟩,.string ⟨#[]⟩,.string ⟨#[]⟩,.string ⟨#[]⟩]):=⟨Yjd⟩
instance:TZE 152 (.int .i64 0):=⟨Ylc⟩
instance:TZE 156 (.pointer none):=⟨Xlb⟩
instance:TZE 160 (.slice none 0 0):=⟨Vcd⟩
instance:TZE 162 (.agg #[.string ⟨#[]⟩,.string ⟨#[]⟩,.nilIface]):=⟨Ujb⟩
instance:TZE 164 (.pointer none):=⟨Jkd⟩
instance:TYE 22 26 9 104:=⟨Zd⟩
instance:TYE 55 82 1 24:=⟨Yp⟩
instance:TYE 56 3 1 8:=⟨Zoa⟩
instance:TYE 57 24 2 24:=⟨Wd⟩
instance:TYE 65 96 6 64:=⟨Wda⟩
instance:TYE 70 94 3 32:=⟨Ww⟩
instance:TYE 82 84 5 56:=⟨Wq⟩
instance:TYE 115 103 1 8:=⟨Jh⟩
instance:TYE 130 134 3 40:=⟨Xdb⟩
instance:TYE 160 5 1 1:=⟨Vdd⟩
instance:TST 9:=⟨Ue⟩
instance:TFL 24 [0,1]:=⟨Wh⟩
instance:TUB 4:=⟨Wzd⟩
instance:TPL 24 [(0,1),(1,1)]:=⟨Vj⟩
instance:TPL 26 [(0,1),(1,1),(2,1),(3,1),(4,1),(5,2),(7,1),(8,1)]:=⟨Jka⟩
instance:TPL 48 [(0,1),(1,1)]:=⟨Zkb⟩
instance:TPL 59 [(0,9),(9,1),(10,1),(11,1),(12,1),(13,1),(14,1),(15,1)]:=⟨Znb⟩
instance:TPL 61 [(0,1),(1,1),(2,2)]:=⟨Xna⟩
instance:TPL 67 [(0,9),(9,1),(10,1),(11,1),(12,1),(13,2),(15,1),(16,1)]:=⟨Qsa⟩
instance:TPL 75 [(0,1),(1,1),(2,1),(3,1)]:=⟨Jha⟩
instance:TPL 84 [(0,1),(1,2),(3,1),(4,1)]:=⟨Xoa⟩
instance:TPL 94 [(0,1),(1,1),(2,1)]:=⟨Uoa⟩
instance:TPL 96 [(0,1),(1,2),(3,1),(4,1),(5,1)]:=⟨Ura⟩
instance:TPL 127 [(0,1),(1,1),(2,1),(3,1)]:=⟨Wic⟩
instance:TPL 134 [(0,1),(1,2)]:=⟨Jvb⟩
instance:TPL 162 [(0,1),(1,1),(2,1)]:=⟨Ukb⟩
theorem CL{Z:List Da→Act→Aa→Prop}{ops:List Oper}{cl:List Nat}{lv:List Bool}{W0:Aa}{n:Nat}{K:Act→Aa→Prop}{k:Nat}{rest:List Oper}{σ:List Ent}{w:Aa}{d:Nat}{ty:Ba}{pos:String}{after:Array Edge}{f:FuncId}{xs:List Ea}{vs:List Ga}{ats:Array Ba}{R:Ga→Aa→Prop}(hC:Ret PP f vs.toArray w R)
  (h:∀ v w',R v w'→(clOf cl k=1→G w w')∧SR PP Z ops cl lv W0 n K (k+1) rest ((d,True,v) :: σ) w') (hx:Xca n σ True xs vs:=by repeat first|exact aq0|refine aqc rfl ?_)
  (hb:(!Aaa (clOf cl k) 0 && !Aaa (clOf cl k) 3&&Aia d n)=true:=by exact rfl) (hf:goFn PP f=true:=by kernel_rfl) :
  SR PP Z ops cl lv W0 n K k (⟨some d,.call { callee:=.value (.func f),args:=xs.toArray,argTypes:=ats },ty,pos,after,none⟩::rest) σ w:=Xe hb (Zy hf Wz hx Os) hC h
theorem RC{p A B q:Prop}(h:A→B→q)(k:(A→B→q)→p:=by exact fun h=>⟨(by first|exact nw1|exact fun _=>ga),(by first|exact h (g.trans ga) (E.gt ga rfl)|exact h (gtg g ga) (E.grow ga)|exact h (g.trans ga) (E.grow ga))⟩):p:=k h
theorem EX{p:Prop}(h:p:=by first
  | exact Zc rfl
  | exact Xv
  | exact Yc rfl id
  | exact Yc rfl (fun h=>h.1)
  | exact Jua
  | exact Wz
  | exact Yc rfl (fun h=>h.1.1)):p:=h
theorem CE{p:Prop}(h:p:=by first
  | exact E.g0.at_ rfl
  | exact E.g1.at_ rfl
  | exact E.g2.at_ rfl
  | exact E.g3.at_ rfl
  | exact E.g4.at_ rfl
  | exact E.g5.at_ rfl
  | exact E.g6.at_ rfl
  | exact E.g7.at_ rfl
  | exact E.g8.at_ rfl
  | exact E.g9.at_ rfl
  | exact E.g10.at_ rfl
  | exact E.g11.at_ rfl
  | exact E.g12.at_ rfl
  | exact h.B.at_ rfl
  | exact hB.at_ rfl
  | exact (hs.grow g).B.at_ rfl
  | exact hcell.one (i:=0) rfl
  | exact hcell.one (i:=1) rfl
  | exact hcell.one (i:=2) rfl
  | exact hcell.one (i:=3) rfl
  | exact hcell.one (i:=4) rfl
  | exact hcell.one (i:=5) rfl
  | exact hcell.one (i:=6) rfl
  | exact hcell.one (i:=7) rfl
  | exact hcell.one (i:=8) rfl
  | exact by assumption):p:=h
theorem ROW{p:Prop}(h:p:=by first
  | exact E.g0.row
  | exact E.g1.row
  | exact E.g2.row
  | exact E.g3.row
  | exact E.g4.row
  | exact E.g5.row
  | exact E.g6.row
  | exact E.g7.row
  | exact E.g8.row
  | exact E.g9.row
  | exact E.g10.row
  | exact E.g11.row
  | exact E.g12.row
  | exact hcell
  | exact hcell.grow g
  | exact by assumption
  | exact h.B.row.part 13 2
  | exact hcell.part 5 2
  | exact E.g0.row.part 5 2
  | exact E.g1.row.part 5 2
  | exact E.g2.row.part 5 2
  | exact E.g3.row.part 5 2
  | exact E.g4.row.part 5 2
  | exact E.g5.row.part 5 2
  | exact E.g6.row.part 5 2
  | exact E.g7.row.part 5 2
  | exact E.g8.row.part 5 2
  | exact E.g9.row.part 5 2
  | exact E.g10.row.part 5 2
  | exact E.g11.row.part 5 2
  | exact E.g12.row.part 5 2):p:=h
theorem PU{p:Prop}(h:p:=by first
  | (apply Zw;exact EX)
  | (apply Zh;exact FOF.h;exact EX)
  | (apply Ji;exact EX)
  | (apply Wna;exact EX;exact EX)
  | (apply Wn;exact EX;exact EX)
  | (apply Xo;exact EX;exact EX)
  | (apply Woa;exact EX;exact EX)
  | (apply Wzc;exact EX)
  | (apply Zxa;exact EX)
  | (apply Qha;exact TYE.h;exact EX)
  | (apply Zxc;exact EX;exact EX)
  | (apply Jbb;exact TST.h;exact EX)
  | (apply Qga;exact EX;exact rfl)
  | (apply Xpg;exact EX;exact EX)
  | (apply Jec;exact EX;exact EX)
  | (apply Jfc;exact EX;exact EX)
  | (apply Jue;exact EX;exact EX)
  | (apply Xr;exact TYE.h;exact EX;exact EX;exact (fun _=>by omega);exact fun _=>hpe)
  | (apply Qdb;exact EX;exact EX;exact (fun _=>by omega))
  | (apply Xia;exact EX;exact EX;exact (fun _=>by omega))
  | (apply Jd;exact TFL.h;exact EX;exact EX;exact rfl)
  | (apply Jfd;exact EX;exact EX)
  | (apply Wtg;exact TUB.h;exact EX;exact EX)
  | (apply Jcb;exact TST.h;exact EX;exact EX;exact (fun _=>by omega))
  | (apply Zvd;exact TFL.h;exact EX;exact EX;exact rfl)
  | (apply Zyc;exact TST.h;exact EX;exact EX;exact EX;exact (fun _=>by omega))
  | (apply Zzc;exact TST.h;exact EX;exact EX;exact (fun _=>by omega))
  | (apply Jva;exact TYE.h;exact EX;exact EX;exact (fun _=>by omega))):p:=h
theorem LD{p:Prop}(h:p:=by first
  | (apply Zt;exact TY1.h;exact EX;exact fun _=>CE)
  | (apply Zo;exact TYA.h;exact EX;rotate_left;exact fun _=>ROW;exact rfl)):p:=h
def Jzb(σ:List Ent):List Nat→Option (List Ent)
 | []=>some []
 | k::ks=>match look σ k with
  | none=>none
  | some (c,v)=>match Jzb σ ks with
   | none=>none
   | some τ=>some ((k,c,v) :: τ)
theorem Wea{σ:List Ent}:∀ {ks:List Nat} {τ:List Ent},Jzb σ ks=some τ→Sub τ σ
 | [],τ,h=>by injection h with h;subst h;exact Zq _
 | k::ks,τ,h=>by
  unfold Jzb at h;split at h;cases h;rename_i c v hl;split at h;cases h;rename_i τ' hk;injection h with h;subst h;exact Zb hl (Wea hk)
section
variable {P:Fa} {Z:List Da→Act→Aa→Prop} {ops:List Oper} {cl:List Nat} {lv:List Bool} {W0:Aa} {n:Nat} {K:Act→Aa→Prop} {k:Nat} {rest:List Oper} {σ τ:List Ent} {w:Aa} {d:Nat} {op:Op} {ty:Ba} {pos:String} {after:Array Edge} {v:Ga} {N T:Act→Aa→Prop} {X:List (Nat×(Act→Aa→Prop))}
theorem SK(ks:List Nat)(h:SR P Z ops cl lv W0 n K k rest τ w)(hk:Jzb σ ks=some τ:=by exact rfl):SR P Z ops cl lv W0 n K k rest σ w:=Vh τ (Wea hk) h
theorem Y2{B:List Da→Aa→Prop}{f:FuncId}{x1 x2:Ea}{v1 v2:Ga}{ats:Array Ba}{R:Ga→Aa→Prop}{Rp:List Da→Aa→Prop}(hb:(!Aaa (clOf cl k) 0 && !Aaa (clOf cl k) 3&&Aia d n)=true)(hf:goFn P f=true)(h1:opv σ x1=some (True,v1))(h2:opv σ x2=some (True,v2))(hC:RetP P f #[v1,v2] w R Rp)(hz:∀ ch w',Rp ch w'→B ch w')
  (h:∀ v w',R v w'→(clOf cl k=1→G w w')∧SR P (ZA B) ops cl lv W0 n K (k+1) rest ((d,True,v) :: σ) w'):SR P (ZA B) ops cl lv W0 n K k (⟨some d,.call { callee:=.value (.func f),args:=#[x1,x2],argTypes:=ats },ty,pos,after,none⟩::rest) σ w:=Zpb hb (Zy hf Wz (aqc h1 (aqc h2 aq0)) rfl) hC hz h
theorem Y3{B:List Da→Aa→Prop}{f:FuncId}{x1 x2 x3:Ea}{v1 v2 v3:Ga}{ats:Array Ba}{R:Ga→Aa→Prop}{Rp:List Da→Aa→Prop}(hb:(!Aaa (clOf cl k) 0 && !Aaa (clOf cl k) 3&&Aia d n)=true)(hf:goFn P f=true)(h1:opv σ x1=some (True,v1))(h2:opv σ x2=some (True,v2))(h3:opv σ x3=some (True,v3))(hC:RetP P f #[v1,v2,v3] w R Rp)(hz:∀ ch w',Rp ch w'→B ch w')
  (h:∀ v w',R v w'→(clOf cl k=1→G w w')∧SR P (ZA B) ops cl lv W0 n K (k+1) rest ((d,True,v) :: σ) w'):SR P (ZA B) ops cl lv W0 n K k (⟨some d,.call { callee:=.value (.func f),args:=#[x1,x2,x3],argTypes:=ats },ty,pos,after,none⟩::rest) σ w:=Zpb hb (Zy hf Wz (aqc h1 (aqc h2 (aqc h3 aq0))) rfl) hC hz h
theorem DK{ρ:Option Nat}{ds:List Deferred}{N T:DPost}{X:List (Nat×DPost)}{Z:List Da→DPost}{c:Code}(ks:List Nat)(h:SCD P ρ n ds c N X T Z τ w)(hk:Jzb σ ks=some τ:=by exact rfl):SCD P ρ n ds c N X T Z σ w:=Uta τ (Wea hk) h
theorem Kp{w w':Aa}{b j:Nat}{e:Ba}{l:List Ga}(h:Blk w b e l)(hg:w.grownBy w' (some j))(k:b≠j:=by first|assumption|exact fun e=>(by assumption:j≠b) e.symm|omega):Blk w' b e l:=h.keep hg fun q=>k (by injection q)
theorem KC{B0:List Da→Aa→Prop}{c:Code}(ks:List Nat)(h:SZ P B0 n c N X T τ w)(hk:Jzb σ ks=some τ:=by exact rfl):SZ P B0 n c N X T σ w:=Wug τ (Wea hk) h
theorem OR{B0:List Da→Aa→Prop}{t:Nat}{g:Bool}{y:Code}{b0:Bool}(ks:List Nat)(hy:g=false→SZ P B0 n y (fun a w'=>Kn n ((t,True,.bool b0) :: τ) a∧w'=w) X T σ w)(hN:∀ a,Kn n ((t,True,.bool (g || b0)) :: τ) a→N a w)(hk:Jzb σ (t::ks)=some ((t,True,.bool g) :: τ):=by exact rfl)(hx:look σ t=some (True,.bool g):=by exact rfl) :
  SZ P B0 n (.cond (.tmp t) .skip y) N X T σ w:=Xqg τ (Wea hk) hx hy hN
theorem TK{cl ms:List Nat}{row:RelX}{m:Nat}{L:List Nat}(ks:List Nat)(h:ST P Z ops cl ms row n K m L τ w)(hk:Jzb σ ks=some τ:=by exact rfl):ST P Z ops cl ms row n K m L σ w:=Vaa τ (Wea hk) h
theorem WK{f:FuncId}{fn:Func}{c:Code}{args:List Ga}{R:Ga→Aa→Prop}(m:Nat)(ks:List Nat)(hf:P.funcs[f]? = some fn)(h:SC P m c (fun a w=>bodyPost P fn (fun e w'=>∃ v,e = .returned v∧R v w') .normal a w) [] (fun a w=>bodyPost P fn (fun e w'=>∃ v,e = .returned v∧R v w') .ret a w) τ w)
  (hb:fn.body=some c:=by exact rfl) (hm:args.length+(fn.ntmps-args.length)=m:=by exact rfl) (hk:Jzb (argsK 0 args) ks=some τ:=by exact rfl):Ret P f args.toArray w R:=Ul hf hb hm τ (Wea hk) h
theorem CP{f:FuncId}{xs:List Ea}{vs:List Ga}{ats:Array Ba}(hC:Ret P f vs.toArray w fun u w'=>u=v∧G w w')(h:∀ w',G w w'→SR P Z ops cl lv W0 n K (k+1) rest ((d,True,v) :: σ) w')(hx:Xca n σ True xs vs:=by repeat first|exact aq0|refine aqc rfl ?_)
  (hb:(!Aaa (clOf cl k) 0 && !Aaa (clOf cl k) 3&&Aia d n)=true:=by exact rfl) (hf:goFn P f=true:=by kernel_rfl):SR P Z ops cl lv W0 n K k (⟨some d,.call { callee:=.value (.func f),args:=xs.toArray,argTypes:=ats },ty,pos,after,none⟩::rest) σ w:=Uv hb (Zy hf Wz hx Os) hC h
theorem CG{f:FuncId}{xs:List Ea}{vs:List Ga}{ats:Array Ba}{g t:Nat}{want b:Bool}{c0:Prop}(hC:c0∧b=want→Ret P f vs.toArray w fun u w'=>u=v∧G w w')(h:∀ w',G w w'→SR P Z ops cl lv W0 n K (k+1) rest ((d,c0∧b=want,v) :: σ) w')(hgd:((ops.toArray[g]?).bind (·.dst))=some t:=by exact rfl)(hlk:look σ t=some (c0,.bool b):=by exact rfl)
  (hx:Xca n σ (c0∧b=want) xs vs:=by repeat first|exact Xw|refine Yn EX ?_)
  (hb:(!Aaa (clOf cl k) 0 && !Aaa (clOf cl k) 3&&Aia d n)=true:=by exact rfl) (hf:goFn P f=true:=by kernel_rfl):SR P Z ops cl lv W0 n K k (⟨some d,.call { callee:=.value (.func f),args:=xs.toArray,argTypes:=ats },ty,pos,after,some (g,want)⟩::rest) σ w:=Zha hb hgd hlk (fun _=>Zy hf Wz hx Os) hC h
end
section
variable {P:Fa} {Z:List Da→Act→Aa→Prop} {ops:List Oper} {cl:List Nat} {lv:List Bool} {W0:Aa} {n:Nat} {K:Act→Aa→Prop} {k:Nat} {rest:List Oper} {σ τ:List Ent} {w:Aa} {d:Nat} {op:Op} {ty:Ba} {pos:String} {after:Array Edge} {v:Ga} {N T:Act→Aa→Prop} {X:List (Nat×(Act→Aa→Prop))} {x y:Ea} {t u:Ba}
theorem isC{c:Code}{B:List Da→Aa→Prop}(h:SZ P B n c N X T σ w):SZ P B n c N X T σ w:=h
theorem isR{l:List Oper}(h:SR P Z ops cl lv W0 n K k l σ w):SR P Z ops cl lv W0 n K k l σ w:=h
theorem isL(h:SR P Z ops cl lv W0 n K k (⟨some d,.load t x,ty,pos,after,none⟩::rest) σ w):SR P Z ops cl lv W0 n K k (⟨some d,.load t x,ty,pos,after,none⟩::rest) σ w:=h
theorem isG{g:Nat×Bool}(h:SR P Z ops cl lv W0 n K k (⟨some d,op,ty,pos,after,some g⟩::rest) σ w):SR P Z ops cl lv W0 n K k (⟨some d,op,ty,pos,after,some g⟩::rest) σ w:=h
theorem isB{b:BinOp}(h:SR P Z ops cl lv W0 n K k (⟨some d,.binOp b t x y u,ty,pos,after,none⟩::rest) σ w):SR P Z ops cl lv W0 n K k (⟨some d,.binOp b t x y u,ty,pos,after,none⟩::rest) σ w:=h
theorem isN(hb:Aaa (clOf cl k) 3=true)(h:SR P Z ops cl lv W0 n K k (⟨some d,op,ty,pos,after,none⟩::rest) σ w):SR P Z ops cl lv W0 n K k (⟨some d,op,ty,pos,after,none⟩::rest) σ w:=h
end
structure Wr (q:Prop):Prop where h:q
theorem AU{p q:Prop}(h:q)(k:Wr q→p:=by
 intro h0
 repeat first
  | (refine isC ?_;first|(refine Zk ?_;try refine Zn ?_)|refine Zn ?_|refine Yu (kq ?_)|refine Yw ?_|refine Xka rfl (kq ?_))
  | (refine isR ?_;first|(refine Ze ?_;refine kq ?_)|(refine isL ?_;first|refine Va TYA.h rfl rfl ROW ?_|refine Xn TY1.h rfl CE ?_)|(refine isG ?_;first|(refine' Zv rfl rfl rfl ?_ ?_;rotate_left;exact fun _=>PU)|(refine' Wb rfl rfl rfl ?_ ?_;rotate_left;exact LD))|(refine isB ?_;first|refine Uhe rfl rfl ?_|refine Yjb rfl rfl ?_|refine Zeb rfl rfl (by omega) ?_|refine Zdf rfl rfl ?_|refine Ykb rfl rfl ?_|refine Qpf rfl rfl ?_|refine Wyg rfl rfl ?_|(refine' Zz rfl ?_ ?_;rotate_left;exact fun _=>PU))|(refine isN rfl ?_;first|refine Zu rfl ?_|refine Xf rfl ?_|refine Xa FOF.h rfl ?_|refine Vx rfl ?_|refine Wxg rfl ?_|refine Xva TYE.h rfl ?_|refine Yja TYE.h rfl rfl (by omega) (by first|exact hpe|assumption) ?_|refine Ju rfl rfl ?_|(refine' Zz rfl ?_ ?_;rotate_left;exact fun _=>PU)|refine Vzb TZE.h TPL.h (by first|exact pq0|exact pqc rfl pq0|repeat first|exact pq0|refine pqc rfl ?_) rfl rfl ?_))
  | (refine Jl ?_;refine kq ?_)
 exact h0.h):p:=k ⟨h⟩
theorem IF{p A B C D:Prop}(hT:A→B)(hF:C→D)(k:(A→B)→(C→D)→p:=by intro hT hF;refine AU ?_;exact Um rfl hT hF):p:=k hT hF
theorem RS1{p:Prop}(h:p:=by repeat first|exact Uc|(apply Unb;exact rfl)|(apply Yoa;exact rfl;exact TYA.h;rotate_left;exact ROW;rotate_right;exact rfl)|(apply Xvb;exact rfl;exact TY1.h;exact CE)):p:=h
theorem RTN{p q:Prop}(h:q)(k:Wr q→p:=by intro h;refine AU ?_;refine We ?_;first|exact Vz rfl rfl h.h|exact Yya rfl RS1 h.h|exact Wza rfl rfl RS1 rfl h.h|exact Jxe rfl h.h):p:=k ⟨h⟩
theorem AN{p:Prop}{R A L q:Nat→Aa→Prop}{B:Nat→Prop}(h:∀ b w,R b w→B b→A b w→L b w→q b w)(k:(∀ b w,R b w→B b→A b w→L b w→q b w)→p:=by
 intro h;refine AU ?_
 first
  | refine Yt rfl TZE.h rfl (fun b w N=>h b w N (Wc N g.size) (gtg g N.g) (E.new N))
  | refine Yt rfl TZE.h rfl (fun b w N=>h b w N (N.ge g) (g.trans N.g) (E.new N))):p:=k h
theorem AM{p:Prop}{R A L q:Nat→Aa→Prop}{B:Nat→Prop}(h:∀ b w,R b w→B b→A b w→L b w→q b w)(k:(∀ b w,R b w→B b→A b w→L b w→q b w)→p:=by
 intro h;refine AU ?_
 first
  | refine Yt rfl TZE.h rfl (fun b w N=>h b w N (Wc N g.size) (gtg g N.g) ((Qs _).new N))
  | refine Yt rfl TZE.h rfl (fun b w N=>h b w N (N.ge g) (g.trans N.g) ((Qs _).new N))):p:=k h
theorem BN{p:Prop}{R A L q:Nat→Aa→Prop}{B:Nat→Prop}(h:∀ b w,R b w→B b→A b w→L b w→q b w)(k:(∀ b w,R b w→B b→A b w→L b w→q b w)→p:=by
 intro h;refine AU ?_
 first
  | refine Zqa rfl (Jv rfl) rfl (fun b w N=>h b w N (Wc N g.size) (gtg g N.g) (E.new N))
  | refine Zqa rfl (Jv rfl) rfl (fun b w N=>h b w N (N.ge g) (g.trans N.g) (E.new N))):p:=k h
theorem BM{p:Prop}{R A L q:Nat→Aa→Prop}{B:Nat→Prop}(h:∀ b w,R b w→B b→A b w→L b w→q b w)(k:(∀ b w,R b w→B b→A b w→L b w→q b w)→p:=by
 intro h;refine AU ?_
 first
  | refine Zqa rfl (Jv rfl) rfl (fun b w N=>h b w N (Wc N g.size) (gtg g N.g) ((Qs _).new N))
  | refine Zqa rfl (Jv rfl) rfl (fun b w N=>h b w N (N.ge g) (g.trans N.g) ((Qs _).new N))):p:=k h
theorem CN{p:Prop}{R A L q:Nat→Aa→Prop}{B:Nat→Prop}(h:∀ b w,R b w→B b→A b w→L b w→q b w)(k:(∀ b w,R b w→B b→A b w→L b w→q b w)→p:=by
 intro h;refine AU ?_
 first
  | refine Ya _ rfl TYE.h TZE.h (by first|exact pqc rfl pq0|exact pqc rfl (pqc rfl pq0)|exact pqc rfl (pqc rfl (pqc rfl pq0))|exact pqc rfl (pqc rfl (pqc rfl (pqc rfl pq0)))|exact pqc rfl (pqc rfl (pqc rfl (pqc rfl (pqc rfl pq0))))|exact pqc rfl (pqc rfl (pqc rfl (pqc rfl (pqc rfl (pqc rfl pq0)))))) rfl rfl (fun b w N=>h b w N (Wc N g.size) (gtg g N.g) (E.new N))
  | refine Ya _ rfl TYE.h TZE.h (by first|exact pqc rfl pq0|exact pqc rfl (pqc rfl pq0)|exact pqc rfl (pqc rfl (pqc rfl pq0))|exact pqc rfl (pqc rfl (pqc rfl (pqc rfl pq0)))|exact pqc rfl (pqc rfl (pqc rfl (pqc rfl (pqc rfl pq0))))|exact pqc rfl (pqc rfl (pqc rfl (pqc rfl (pqc rfl (pqc rfl pq0)))))) rfl rfl (fun b w N=>h b w N (N.ge g) (g.trans N.g) (E.new N))):p:=k h
theorem CM{p:Prop}{R A L q:Nat→Aa→Prop}{B:Nat→Prop}(h:∀ b w,R b w→B b→A b w→L b w→q b w)(k:(∀ b w,R b w→B b→A b w→L b w→q b w)→p:=by
 intro h;refine AU ?_
 first
  | refine Ya _ rfl TYE.h TZE.h (by first|exact pqc rfl pq0|exact pqc rfl (pqc rfl pq0)|exact pqc rfl (pqc rfl (pqc rfl pq0))|exact pqc rfl (pqc rfl (pqc rfl (pqc rfl pq0)))|exact pqc rfl (pqc rfl (pqc rfl (pqc rfl (pqc rfl pq0))))|exact pqc rfl (pqc rfl (pqc rfl (pqc rfl (pqc rfl (pqc rfl pq0)))))) rfl rfl (fun b w N=>h b w N (Wc N g.size) (gtg g N.g) ((Qs _).new N))
  | refine Ya _ rfl TYE.h TZE.h (by first|exact pqc rfl pq0|exact pqc rfl (pqc rfl pq0)|exact pqc rfl (pqc rfl (pqc rfl pq0))|exact pqc rfl (pqc rfl (pqc rfl (pqc rfl pq0)))|exact pqc rfl (pqc rfl (pqc rfl (pqc rfl (pqc rfl pq0))))|exact pqc rfl (pqc rfl (pqc rfl (pqc rfl (pqc rfl (pqc rfl pq0)))))) rfl rfl (fun b w N=>h b w N (N.ge g) (g.trans N.g) ((Qs _).new N))):p:=k h
theorem AS{p B:Prop}{R A L q:Aa→Prop}(h:∀ w,R w→B→A w→L w→q w)(k:(∀ w,R w→B→A w→L w→q w)→p:=by
 intro h;refine AU ?_
 first
  | refine Zra TSZ.h rfl rfl rfl E.g0 (fun w r _ B=>h w r E.g0 (by first|exact Yb g r (by first|assumption|omega)|exact Yq g r (by first|assumption|omega)) (E.s0 r B))
  | refine Xxb TSZ.h rfl rfl rfl E.g0 (fun w r _ B=>h w r E.g0 (by first|exact Yb g r (by first|assumption|omega)|exact Yq g r (by first|assumption|omega)) (E.s0 r B))
  | refine Zra TSZ.h rfl rfl rfl E.g1 (fun w r _ B=>h w r E.g1 (by first|exact Yb g r (by first|assumption|omega)|exact Yq g r (by first|assumption|omega)) (E.s1 r B))
  | refine Xxb TSZ.h rfl rfl rfl E.g1 (fun w r _ B=>h w r E.g1 (by first|exact Yb g r (by first|assumption|omega)|exact Yq g r (by first|assumption|omega)) (E.s1 r B))
  | refine Zra TSZ.h rfl rfl rfl E.g2 (fun w r _ B=>h w r E.g2 (by first|exact Yb g r (by first|assumption|omega)|exact Yq g r (by first|assumption|omega)) (E.s2 r B))
  | refine Xxb TSZ.h rfl rfl rfl E.g2 (fun w r _ B=>h w r E.g2 (by first|exact Yb g r (by first|assumption|omega)|exact Yq g r (by first|assumption|omega)) (E.s2 r B))
  | refine Zra TSZ.h rfl rfl rfl E.g3 (fun w r _ B=>h w r E.g3 (by first|exact Yb g r (by first|assumption|omega)|exact Yq g r (by first|assumption|omega)) (E.s3 r B))
  | refine Xxb TSZ.h rfl rfl rfl E.g3 (fun w r _ B=>h w r E.g3 (by first|exact Yb g r (by first|assumption|omega)|exact Yq g r (by first|assumption|omega)) (E.s3 r B))
  | refine Zra TSZ.h rfl rfl rfl E.g4 (fun w r _ B=>h w r E.g4 (by first|exact Yb g r (by first|assumption|omega)|exact Yq g r (by first|assumption|omega)) (E.s4 r B))
  | refine Xxb TSZ.h rfl rfl rfl E.g4 (fun w r _ B=>h w r E.g4 (by first|exact Yb g r (by first|assumption|omega)|exact Yq g r (by first|assumption|omega)) (E.s4 r B))
  | refine Zra TSZ.h rfl rfl rfl E.g5 (fun w r _ B=>h w r E.g5 (by first|exact Yb g r (by first|assumption|omega)|exact Yq g r (by first|assumption|omega)) (E.s5 r B))
  | refine Xxb TSZ.h rfl rfl rfl E.g5 (fun w r _ B=>h w r E.g5 (by first|exact Yb g r (by first|assumption|omega)|exact Yq g r (by first|assumption|omega)) (E.s5 r B))
  | refine Zra TSZ.h rfl rfl rfl E.g6 (fun w r _ B=>h w r E.g6 (by first|exact Yb g r (by first|assumption|omega)|exact Yq g r (by first|assumption|omega)) (E.s6 r B))
  | refine Xxb TSZ.h rfl rfl rfl E.g6 (fun w r _ B=>h w r E.g6 (by first|exact Yb g r (by first|assumption|omega)|exact Yq g r (by first|assumption|omega)) (E.s6 r B))
  | refine Zra TSZ.h rfl rfl rfl E.g7 (fun w r _ B=>h w r E.g7 (by first|exact Yb g r (by first|assumption|omega)|exact Yq g r (by first|assumption|omega)) (E.s7 r B))
  | refine Xxb TSZ.h rfl rfl rfl E.g7 (fun w r _ B=>h w r E.g7 (by first|exact Yb g r (by first|assumption|omega)|exact Yq g r (by first|assumption|omega)) (E.s7 r B))
  | refine Zra TSZ.h rfl rfl rfl E.g8 (fun w r _ B=>h w r E.g8 (by first|exact Yb g r (by first|assumption|omega)|exact Yq g r (by first|assumption|omega)) (E.s8 r B))
  | refine Xxb TSZ.h rfl rfl rfl E.g8 (fun w r _ B=>h w r E.g8 (by first|exact Yb g r (by first|assumption|omega)|exact Yq g r (by first|assumption|omega)) (E.s8 r B))
  | refine Zra TSZ.h rfl rfl rfl E.g9 (fun w r _ B=>h w r E.g9 (by first|exact Yb g r (by first|assumption|omega)|exact Yq g r (by first|assumption|omega)) (E.s9 r B))
  | refine Xxb TSZ.h rfl rfl rfl E.g9 (fun w r _ B=>h w r E.g9 (by first|exact Yb g r (by first|assumption|omega)|exact Yq g r (by first|assumption|omega)) (E.s9 r B))
  | refine Zra TSZ.h rfl rfl rfl E.g10 (fun w r _ B=>h w r E.g10 (by first|exact Yb g r (by first|assumption|omega)|exact Yq g r (by first|assumption|omega)) (E.s10 r B))
  | refine Xxb TSZ.h rfl rfl rfl E.g10 (fun w r _ B=>h w r E.g10 (by first|exact Yb g r (by first|assumption|omega)|exact Yq g r (by first|assumption|omega)) (E.s10 r B))
  | refine Zra TSZ.h rfl rfl rfl E.g11 (fun w r _ B=>h w r E.g11 (by first|exact Yb g r (by first|assumption|omega)|exact Yq g r (by first|assumption|omega)) (E.s11 r B))
  | refine Xxb TSZ.h rfl rfl rfl E.g11 (fun w r _ B=>h w r E.g11 (by first|exact Yb g r (by first|assumption|omega)|exact Yq g r (by first|assumption|omega)) (E.s11 r B))
  | refine Zra TSZ.h rfl rfl rfl E.g12 (fun w r _ B=>h w r E.g12 (by first|exact Yb g r (by first|assumption|omega)|exact Yq g r (by first|assumption|omega)) (E.s12 r B))
  | refine Xxb TSZ.h rfl rfl rfl E.g12 (fun w r _ B=>h w r E.g12 (by first|exact Yb g r (by first|assumption|omega)|exact Yq g r (by first|assumption|omega)) (E.s12 r B))):p:=k h
theorem Ua{p q:Prop}(h:p)(k:p→q:=by exact fun h=>h.keep ga Os):q:=k h
theorem Ud{p q:Prop}(h:p)(k:p→q:=by exact fun h=>h.keep ga (fun k hk _ e=>by injection e with e;omega)):q:=k h
theorem Ui{p q:Prop}(h:p)(k:p→q:=by exact fun h=>h.grow ga.g):q:=k h
theorem Uj{p q:Prop}(h:p)(k:p→q:=by exact fun h=>h.new ga):q:=k h
theorem Uk{p q:Prop}(h:p)(k:p→q:=by exact fun h=>h.grow ga):q:=k h
end Go.Rk
namespace Go.Rk
open Go.Proofs
open Go
theorem bsimp:True:=trivial
def letterB(c:Int):Bool:=(decide (97≤c)&&decide (c≤122) || decide (65≤c)&&decide (c≤90)) || decide (c=95)
def digitB(c:Int):Bool:=decide (48≤c)&&decide (c≤57)
theorem Ync(c:Int)(w:Aa):Ret PP 178 #[.int .u8 c] w fun v w'=>v = .bool (letterB c)∧G w w':=by
 have g:=G.refl w;refine WK 21 [0] Tryz.func178 ?_;refine RTN ?_;exact ⟨rfl,g⟩
theorem Vpc(c:Int)(w:Aa):Ret PP 180 #[.int .u8 c] w fun v w'=>v = .bool (digitB c)∧G w w':=by
 have g:=G.refl w;refine WK 9 [0] Tryz.func180 ?_;refine RTN ?_;exact ⟨rfl,g⟩
theorem Znf(c:Int)(w:Aa):Ret PP 177 #[.int .u8 c] w fun v w'=>v = .bool (!decide (c=10))∧G w w':=by
 have g:=G.refl w;refine WK 5 [0] Tryz.func177 ?_;refine RTN ?_;exact ⟨rfl,g⟩
theorem Zof(c:Int)(w:Aa):Ret PP 179 #[.int .u8 c] w fun v w'=>v = .bool (letterB c || digitB c)∧G w w':=by
 have g:=G.refl w;refine WK 9 [0] Tryz.func179 ?_;refine AU ?_;refine CP (Ync _ _) (fun w4 g4=>?_);have g:=g.trans g4;refine AU ?_;refine CG (fun hc=>Vpc _ _) (fun w7 g7=>?_);have g:=g.trans g7;refine RTN ?_;exact ⟨rfl,g⟩
def kws:List (List UInt8):=[[116,121,112,101],[115,116,114,117,99,116],[118,97,114],[102,117,110,99],[105,102],[101,108,115,101],[102,111,114],[114,101,116,117,114,110],[103,111],[100,101,102,101,114],[115,101,108,101,99,116],[99,97,115,101],[100,101,102,97,117,108,116],[99,104,97,110],[110,101,119],[109,97,107,101],[108,101,110],[116,114,117,101],[102,97,108,115,101],[110,105,108],[112,114,105,110,116],[99,108,111,115,101],[105,110,116],[98,111,111,108],[109,117,116,101,120],[114,119,109,117,116,101,120],[103,114,111,117,112],[111,110,99,101],[97,116,111,109,105,99]]
def endw:List (List UInt8):=[[116,114,117,101],[102,97,108,115,101],[110,105,108],[114,101,116,117,114,110],[105,110,116],[98,111,111,108],[109,117,116,101,120],[114,119,109,117,116,101,120],[103,114,111,117,112],[111,110,99,101],[97,116,111,109,105,99],[41],[93],[125]]
def inB(l:List (List UInt8))(s:List UInt8):Bool:=l.any fun k=>decide (s=k)
theorem Jld(s:List UInt8)(w:Aa):Ret PP 181 #[Str s] w fun v w'=>v = .bool (inB kws s)∧G w w':=by
 have g:=G.refl w;refine WK 34 [0] Tryz.func181 ?_;refine AU ?_;refine' OR [2] (fun hb1=>?y1) (kq ?n1)
 case y1 =>
  refine AU ?_;refine' OR [2] (fun hb2=>?y2) knr
  case y2 =>
   refine AU ?_;refine' OR [2] (fun hb3=>?y3) knr
   case y3 =>
    refine AU ?_;refine' OR [2] (fun hb4=>?y4) knr
    case y4 =>
     refine AU ?_;refine' OR [2] (fun hb5=>?y5) knr
     case y5 =>
      refine AU ?_;refine' OR [2] (fun hb6=>?y6) knr
      case y6 =>
       refine AU ?_;refine' OR [2] (fun hb7=>?y7) knr
       case y7 =>
        refine AU ?_;refine' OR [2] (fun hb8=>?y8) knr
        case y8 =>
         refine AU ?_;refine' OR [2] (fun hb9=>?y9) knr
         case y9 =>
          refine AU ?_;refine' OR [2] (fun hb10=>?y10) knr
          case y10 =>
           refine AU ?_;refine' OR [2] (fun hb11=>?y11) knr
           case y11 =>
            refine AU ?_;refine' OR [2] (fun hb12=>?y12) knr
            case y12 =>
             refine AU ?_;refine' OR [2] (fun hb13=>?y13) knr
             case y13 =>
              refine AU ?_;refine' OR [2] (fun hb14=>?y14) knr
              case y14 =>
               refine AU ?_;refine' OR [2] (fun hb15=>?y15) knr
               case y15 =>
                refine AU ?_;refine' OR [2] (fun hb16=>?y16) knr
                case y16 =>
                 refine AU ?_;refine' OR [2] (fun hb17=>?y17) knr
                 case y17 =>
                  refine AU ?_;refine' OR [2] (fun hb18=>?y18) knr
                  case y18 =>
                   refine AU ?_;refine' OR [2] (fun hb19=>?y19) knr
                   case y19 =>
                    refine AU ?_;refine' OR [2] (fun hb20=>?y20) knr
                    case y20 =>
                     refine AU ?_;refine' OR [2] (fun hb21=>?y21) knr
                     case y21 =>
                      refine AU ?_;refine' OR [2] (fun hb22=>?y22) knr
                      case y22 =>
                       refine AU ?_;refine' OR [2] (fun hb23=>?y23) knr
                       case y23 =>
                        refine AU ?_;refine' OR [2] (fun hb24=>?y24) knr
                        case y24 =>
                         refine AU ?_;refine' OR [2] (fun hb25=>?y25) knr
                         case y25 =>
                          refine AU ?_;refine' OR [2] (fun hb26=>?y26) knr
                          case y26 =>
                           refine AU ?_;refine' OR [2] (fun hb27=>?y27) knr
                           case y27 =>
                            refine AU ?_;refine' OR [2] (fun hb28=>?y28) knr
                            case y28 =>
                             refine AU ?_;refine SK [4,2] ?_;exact Ze knr
 case n1 =>
  refine IF (fun h29=>?_) fun h29=>?_;(try simp only [bsimp] at h29);refine RTN ?_;refine ⟨?_,g⟩;simp only [inB,kws,Asa,Ata,Ama];rw [h29];refine RTN ?_;refine ⟨?_,g⟩;simp only [inB,kws,Asa,Ata,Ama];rw [h29]
theorem Use(s:List UInt8)(w:Aa):Ret PP 185 #[Str s] w fun v w'=>v = .bool (inB endw s)∧G w w':=by
 have g:=G.refl w;refine WK 19 [0] Tryz.func185 ?_;refine AU ?_;refine' OR [2] (fun hb1=>?y1) (kq ?n1)
 case y1 =>
  refine AU ?_;refine' OR [2] (fun hb2=>?y2) knr
  case y2 =>
   refine AU ?_;refine' OR [2] (fun hb3=>?y3) knr
   case y3 =>
    refine AU ?_;refine' OR [2] (fun hb4=>?y4) knr
    case y4 =>
     refine AU ?_;refine' OR [2] (fun hb5=>?y5) knr
     case y5 =>
      refine AU ?_;refine' OR [2] (fun hb6=>?y6) knr
      case y6 =>
       refine AU ?_;refine' OR [2] (fun hb7=>?y7) knr
       case y7 =>
        refine AU ?_;refine' OR [2] (fun hb8=>?y8) knr
        case y8 =>
         refine AU ?_;refine' OR [2] (fun hb9=>?y9) knr
         case y9 =>
          refine AU ?_;refine' OR [2] (fun hb10=>?y10) knr
          case y10 =>
           refine AU ?_;refine' OR [2] (fun hb11=>?y11) knr
           case y11 =>
            refine AU ?_;refine' OR [2] (fun hb12=>?y12) knr
            case y12 =>
             refine AU ?_;refine' OR [2] (fun hb13=>?y13) knr
             case y13 =>
              refine AU ?_;refine SK [4,2] ?_;exact Ze knr
 case n1 =>
  refine IF (fun h14=>?_) fun h14=>?_;(try simp only [bsimp] at h14);refine RTN ?_;refine ⟨?_,g⟩;simp only [inB,endw,Asa,Ata,Ama];rw [h14];refine RTN ?_;refine ⟨?_,g⟩;simp only [inB,endw,Asa,Ata,Ama];rw [h14]
end Go.Rk
namespace Go.Rk
open Go.Proofs
open Go Go.RowKit
def preB(p s:List UInt8):Bool:=decide (p.length≤s.length)&&decide (s.take p.length=p)
theorem Ypd(s p:List UInt8)(w:Aa):Ret PP 186 #[Str s,Str p] w fun v w'=>v = .bool (preB p s)∧G w w':=by
 have g:=G.refl w;refine WK 18 [0,1] Tryz.func186 ?_;refine AU ?_;refine Zv J J J (fun _=>Zzc Ue (Yc J id) (Yc J id) (fun hc=>⟨O,by have:=Zch hc.2;omega⟩)) ?_;refine RTN ?_;refine ⟨?_,g⟩;unfold preB;simp
theorem Uvb(s p:List UInt8)(w:Aa):Ret PP 175 #[Str s,Str p] w fun v w'=>v = .bool (preB p s)∧G w w':=by
 have g:=G.refl w;refine WK 8 [0,1] Tryz.func175 ?_;refine AU ?_;refine CP (Ypd _ _ _) (fun w7 g7=>?_);have g:=g.trans g7;refine RTN ?_;exact ⟨rfl,g⟩
structure Tok where
  kind:Int
  text:List UInt8
  pos:Int
def tokCells(t:Tok):List Ga:=[.int .i64 t.kind,Str t.text,.int .i64 t.pos]
def toksCells(l:List Tok):List Ga:=l.flatMap tokCells
theorem Zqb(l:List Tok):(toksCells l).length=l.length*3:=by
 unfold toksCells
 induction l with
 | nil=>rfl
 | cons t l ih=>rw [Ana,Aka,ih];simp [tokCells];omega
theorem Xqa(l:List Tok)(t:Tok):toksCells (l++[t])=toksCells l++tokCells t:=by simp [toksCells]
def Scn(base b:Nat)(s:List UInt8)(p:Nat)(ts cs:List Tok)(w:Aa):Prop :=
 ∃ ta tc ca cc,Blk w b 127 [Str s,.int .i64 p,.slice ta ts.length tc,.slice ca cs.length cc]∧base≤b∧w.ownsRow base 94 3 (.slice ta ts.length tc) ts.length (toksCells ts)∧
  w.ownsRow base 94 3 (.slice ca cs.length cc) cs.length (toksCells cs)∧(Ia ta ts.length tc).ownBlock≠some b∧(Ia ca cs.length cc).ownBlock≠some b∧
  (∀ k,(Ia ta ts.length tc).ownBlock=some k→(Ia ca cs.length cc).ownBlock≠some k)∧ts.length≤p∧cs.length≤p∧p≤s.length∧s.length≤20000
theorem Yub{w:Aa}{base:Nat}{e:Ba}{z:Nat}{tv tv' cv:Ga}{m:Nat}{xs:List Ga}(hc:w.ownsRow base e z cv m xs)(n3:∀ k,tv.ownBlock=some k→cv.ownBlock≠some k)
 (hat:tv'.ownBlock=tv.ownBlock∨tv'.ownBlock=some w.heap.size):∀ k,tv'.ownBlock=some k→cv.ownBlock≠some k:=by
 intro k hk;rcases hat with e|e;exact n3 k (e▸hk);rw [e] at hk;injection hk with hk;subst hk;exact Wwg hc (Ada _)
theorem Yoc{w:Aa}{b:Nat}{tv tv':Ga}(hb:b<w.heap.size)(n1:tv.ownBlock≠some b)(hat:tv'.ownBlock=tv.ownBlock∨tv'.ownBlock=some w.heap.size):tv'.ownBlock≠some b:=by
 rcases hat with e|e <;> rw [e]
 exact n1;intro h;injection h with h;omega
theorem Ypc{w w':Aa}{base:Nat}{e:Ba}{z:Nat}{tv cv:Ga}{m:Nat}{xs:List Ga}(hc:w.ownsRow base e z cv m xs)(n3:∀ k,tv.ownBlock=some k→cv.ownBlock≠some k)(hg:w.grownBy w' tv.ownBlock):w'.ownsRow base e z cv m xs :=
 Yi hc hg (by rcases hq:cv.ownBlock with _|k;exact .inl rfl;exact .inr (fun he=>n3 k he.symm hq))
theorem Yqd(base b:Nat)(s:List UInt8)(p:Nat)(ts cs:List Tok)(kind:Int)(size:Nat)(w:Aa)(hs:Scn base b s p ts cs w)(h1:1≤size)(h2:p+size≤s.length) :
 Ret PP 182 #[.pointer (some ⟨b,0,none⟩),.int .i64 kind,.int .i64 size] w fun v w'=>v = .tuple #[]∧Scn base b s (p+size) (ts++[⟨kind,(s.drop p).take size,p⟩]) cs w'∧Below base w w':=by
 obtain ⟨ta,tc,ca,cc,hB,hb0,ht,hc,n1,n2,n3,k1,k2,k3,k4⟩:=hs;have hb:Below base w w:=Below.refl _ _;have hlt:=hB.lt;refine Ul (m:=44) Tryz.func182 J J [(0,True,_),(1,True,_),(2,True,_)] (Zb J (Zb J (Zb J (Zq _)))) ?_;refine Zk (Xg [3,3,3,3,0,3,3,3,3,0,3,3,3,0,3,3,3,0,3,3,3,3,3,3,0,3,1,2,3,3,2] [true,true,true,true,true,true,true,true,true,true,true,true,true,true,true,true,true,true,true,true,true,true,true,true,true,true,true,true,true,true,true] [0,0,2,6,14,0,0,64,192,448,0,1024,3072,7168,0,16384,49152,114688,0,507904,1048512,0,2097152,6291456,14680064,33554400,67108832,134217726,268435455,536870911,1073741823] mix KR ?_);have hb:=hb.drew;have hB:Blk w.drew _ _ _:=hB;have ht:=Wyd ht;have hc:=Wyd hc;refine Zu J (Zu J (Vx J (Xa Qd J (Xn Us J (hB.at_ J) (Zu J (Zu J (Vx J (Xa Wl J (Xn Xc J (hB.at_ J) (Zu J (Vx J (Xa Yo J (Xn Yf J (hB.at_ J) (Zu J (Vx J (?_))))))))))))))));refine Xa Yo J (Xn Yf J (hB.at_ J) (Zu J (Zeb J J O (Zz J (fun _=>Zyc Ue (Zc J) (Zc J) (Zc J) (fun _=>O)) (Zu J (Vx J (Xa Yo J (Xn Yf J (hB.at_ J) (Vzb Qv Uoa (pqc J (pqc J (pqc J pq0))) J J (Ya _ J Ww Qv (pqc J pq0) J J ?_))))))))));intro b32 w32 N32;have hb:=hb.trans (Yha N32.g (by show base≤w.heap.size;omega));have hB:=hB.grow N32.g;have ht:=Xl ht N32.g;have hc:=Xl hc N32.g;have hlt:=hB.lt;have E:=(Qs _).new N32;refine Ur J Ww Qv J Od (Zc J) ht (Zc J) J N32.blk.row J (by simp only [maxLen];omega) O O ?_;intro ta' tc' w33 ht' hg hat;have hb:=Zza hb hg O (fun k hk=>(ht.lt k hk).1);have hB:=hB.keep hg (Ne.symm n1);have n3':=Yub hc n3 hat;have hc:=Ypc hc n3 hg;have n3:=n3'
 have n1:=Yoc hlt n1 hat;refine AU ?_;refine Xb J Yza (Zc J) (Zc J) J J hB J J ?_;intro w34 hg2 hz2 hB;have hb:=Zza hb hg2 (by have:=hb.size;omega) (fun k hk=>by injection hk with hk;omega);have ht':=Yi ht' hg2 (.inr n1);have hc:=Yi hc hg2 (.inr n2);refine AU ?_;refine Xb J Vca (Zc J) (Zc J) J J hB J J ?_;intro w44 hg3 hz3 hB;have hb:=Zza hb hg3 (by have:=hb.size;omega) (fun k hk=>by injection hk with hk;omega);have ht':=Yi ht' hg3 (.inr n1);have hc:=Yi hc hg3 (.inr n2);refine Ze (Ypa J ?_);have e:((p:Int)+size).toNat-(p:Int).toNat=size:=by omega
 rw [e] at ht';have hl:(ts++[(⟨kind,(s.drop p).take size,p⟩:Tok)]).length=ts.length+1:=by simp
 refine ⟨rfl,⟨ta',tc',ca,cc,?_,hb0,?_,hc,?_,n2,?_,?_,O,h2,k4⟩,hb⟩ <;> rw [hl]
 exact hB;rw [Xqa];exact ht';exact n1;exact n3;omega
structure SA (base b:Nat) (s:List UInt8) (p:Nat) (ts cs:List Tok) (ta:Option Addr) (tc:Nat) (ca:Option Addr) (cc:Nat) (w:Aa):Prop where
  B:Blk w b 127 [Str s,.int .i64 p,.slice ta ts.length tc,.slice ca cs.length cc]
  hb:base≤b
  ht:w.ownsRow base 94 3 (.slice ta ts.length tc) ts.length (toksCells ts)
  hc:w.ownsRow base 94 3 (.slice ca cs.length cc) cs.length (toksCells cs)
  n1:(Ia ta ts.length tc).ownBlock≠some b
  n2:(Ia ca cs.length cc).ownBlock≠some b
  n3:∀ k,(Ia ta ts.length tc).ownBlock=some k→(Ia ca cs.length cc).ownBlock≠some k
theorem SA.grow{base b:Nat}{s:List UInt8}{p:Nat}{ts cs:List Tok}{ta:Option Addr}{tc:Nat}{ca:Option Addr}{cc:Nat}{w w1:Aa}(h:SA base b s p ts cs ta tc ca cc w)(g:G w w1):SA base b s p ts cs ta tc ca cc w1 :=
 { h with B:=h.B.grow g,ht:=Xl h.ht g,hc:=Xl h.hc g }
theorem SA.scn{base b:Nat}{s:List UInt8}{p:Nat}{ts cs:List Tok}{ta:Option Addr}{tc:Nat}{ca:Option Addr}{cc:Nat}{w:Aa}(h:SA base b s p ts cs ta tc ca cc w)(k1:ts.length≤p)(k2:cs.length≤p)(k3:p≤s.length)(k4:s.length≤20000):Scn base b s p ts cs w :=
 ⟨ta,tc,ca,cc,h.B,h.hb,h.ht,h.hc,h.n1,h.n2,h.n3,k1,k2,k3,k4⟩
theorem Scn.sa{base b:Nat}{s:List UInt8}{p:Nat}{ts cs:List Tok}{w:Aa}(h:Scn base b s p ts cs w):∃ ta tc ca cc,SA base b s p ts cs ta tc ca cc w∧ts.length≤p∧cs.length≤p∧p≤s.length∧s.length≤20000:=by
 obtain ⟨ta,tc,ca,cc,hB,hb0,ht,hc,n1,n2,n3,k1,k2,k3,k4⟩:=h;exact ⟨ta,tc,ca,cc,⟨hB,hb0,ht,hc,n1,n2,n3⟩,k1,k2,k3,k4⟩
theorem SA.base_le{base b:Nat}{s:List UInt8}{p:Nat}{ts cs:List Tok}{ta:Option Addr}{tc:Nat}{ca:Option Addr}{cc:Nat}{w:Aa}(h:SA base b s p ts cs ta tc ca cc w):base≤w.heap.size:=by have:=h.hb;have:=h.B.lt;omega
theorem SA.setp{base b:Nat}{s:List UInt8}{p q:Nat}{ts cs:List Tok}{ta:Option Addr}{tc:Nat}{ca:Option Addr}{cc:Nat}{w w1:Aa}(h:SA base b s p ts cs ta tc ca cc w)(hg:w.grownBy w1 (some b))
  (hB:Blk w1 b 127 [Str s,.int .i64 q,.slice ta ts.length tc,.slice ca cs.length cc]):SA base b s q ts cs ta tc ca cc w1 :=
 { h with B:=hB,ht:=Yi h.ht hg (.inr h.n1),hc:=Yi h.hc hg (.inr h.n2) }
theorem Wjb{base b:Nat}{a wk w1 w2:Aa}(hb:Below base a wk)(g:G wk w1)(hg:w1.grownBy w2 (some b))(hz:base≤wk.heap.size)(h:base≤b):Below base a w2:=by
 have:=g.size;exact Zza (hb.trans (Yha g hz)) hg O (fun k hk=>by injection hk with hk;omega)
theorem Scn.grow{base b:Nat}{s:List UInt8}{p:Nat}{ts cs:List Tok}{w w1:Aa}(h:Scn base b s p ts cs w)(g:G w w1):Scn base b s p ts cs w1:=by
 obtain ⟨ta,tc,ca,cc,h,k1,k2,k3,k4⟩:=h.sa;exact (h.grow g).scn k1 k2 k3 k4
theorem SA.putT{base b:Nat}{s:List UInt8}{p:Nat}{ts cs:List Tok}{ta:Option Addr}{tc:Nat}{ca:Option Addr}{cc:Nat}{w w1 w2:Aa}{ta':Option Addr}{tc':Nat}{t:Tok}(h:SA base b s p ts cs ta tc ca cc w)
 (h1:w1.ownsRow base 94 3 (.slice ta' (ts.length+1) tc') (ts.length+1) (toksCells ts++tokCells t)) (hg:w.grownBy w1 (Ia ta ts.length tc).ownBlock)
 (hat:(Ia ta' (ts.length+1) tc').ownBlock=(Ia ta ts.length tc).ownBlock∨(Ia ta' (ts.length+1) tc').ownBlock=some w.heap.size) (hg2:w1.grownBy w2 (some b))
 (hB:Blk w2 b 127 [Str s,.int .i64 p,.slice ta' (ts.length+1) tc',.slice ca cs.length cc]):SA base b s p (ts++[t]) cs ta' tc' ca cc w2:=by
 have n1:=Yoc h.B.lt h.n1 hat;have hl:(ts++[t]).length=ts.length+1:=by simp
 have hc:=Ypc h.hc h.n3 hg;refine ⟨by rw [hl];exact hB,h.hb,?_,Yi hc hg2 (.inr h.n2),by rw [hl];exact n1,h.n2,?_⟩;rw [hl,Xqa];exact Yi h1 hg2 (.inr n1);rw [hl];exact Yub h.hc h.n3 hat
theorem SA.putC{base b:Nat}{s:List UInt8}{p:Nat}{ts cs:List Tok}{ta:Option Addr}{tc:Nat}{ca:Option Addr}{cc:Nat}{w w1 w2:Aa}{ca':Option Addr}{cc':Nat}{t:Tok}(h:SA base b s p ts cs ta tc ca cc w)
 (h1:w1.ownsRow base 94 3 (.slice ca' (cs.length+1) cc') (cs.length+1) (toksCells cs++tokCells t)) (hg:w.grownBy w1 (Ia ca cs.length cc).ownBlock)
 (hat:(Ia ca' (cs.length+1) cc').ownBlock=(Ia ca cs.length cc).ownBlock∨(Ia ca' (cs.length+1) cc').ownBlock=some w.heap.size) (hg2:w1.grownBy w2 (some b))
 (hB:Blk w2 b 127 [Str s,.int .i64 p,.slice ta ts.length tc,.slice ca' (cs.length+1) cc']):SA base b s p ts (cs++[t]) ta tc ca' cc' w2:=by
 have n2:=Yoc h.B.lt h.n2 hat;have hl:(cs++[t]).length=cs.length+1:=by simp
 have n3':∀ k,(Ia ca cs.length cc).ownBlock=some k→(Ia ta ts.length tc).ownBlock≠some k:=fun k hk he=>h.n3 k he hk;have ht:=Ypc h.ht n3' hg;refine ⟨by rw [hl];exact hB,h.hb,Yi ht hg2 (.inr h.n1),?_,h.n1,by rw [hl];exact n2,?_⟩;rw [hl,Xqa];exact Yi h1 hg2 (.inr n2);rw [hl];exact fun k hk he=>Yub h.ht n3' hat k he hk
def Xfe(t:Tok):Bool:=(decide (t.kind=1) || decide (t.kind=2)) || inB endw t.text
def nlTs(p:Nat)(ts:List Tok):List Tok:=match ts.getLast? with
 | some t=>if Xfe t=true then ts++[⟨4,[59],p⟩] else ts
 | none=>ts
theorem Zpf{w:Aa}{b:Nat}{ts0:List Tok}{t:Tok}(h:RowAt w b 0 (toksCells (ts0++[t]))):RowAt w b (0+(((ts0++[t]).length:Nat)-1:Int).toNat*3) (tokCells t):=by
 have e:(((ts0++[t]).length:Nat)-1:Int).toNat=ts0.length:=by simp
 have k:=h.part (ts0.length*3) 3;rw [e]
 have e2:((toksCells (ts0++[t])).drop (ts0.length*3)).take 3=tokCells t:=by
  rw [Xqa,List.drop_append_of_le_length (by rw [Zqb];exact Ada _),Bha (by rw [Zqb];exact Ada _)];rfl
 rw [e2] at k;exact k
theorem Jmd(base b:Nat)(s:List UInt8)(p:Nat)(ts cs:List Tok)(w:Aa)(hs:Scn base b s p ts cs w)(h2:p<s.length) :
 Ret PP 174 #[.pointer (some ⟨b,0,none⟩)] w fun v w'=>v = .tuple #[]∧Scn base b s (p+1) (nlTs p ts) cs w'∧Below base w w':=by
 obtain ⟨ta,tc,ca,cc,hs,k1,k2,k3,k4⟩:=hs.sa;have g:=G.refl w;have hb:Below base w w:=Below.refl _ _;refine WK 53 [0] Tryz.func174 ?_;refine Zk (Zk (Zn (Zu J (Vx J (Xa Qd J (Xn Us J (by first|exact (hs.grow g).B.at_ J) (Xva Ww J (Xf J (Ze (kq (Zk (Zn (Zu J (Qpf J J (Ze (kq (Um J (fun h1=>?_) (fun h1=>?_))))))))))))))))));have hp:0<ts.length:=by simp only [Zah] at h1;omega
 obtain ⟨ts0,t,ets⟩:∃ ts0 t,ts=ts0++[t]:=by
  rcases List.eq_nil_or_concat ts with e|⟨l,x,e⟩;rw [e] at hp;cases hp;exact ⟨l,x,by simpa using e⟩
 subst ets;obtain ⟨bt,ct,ev,_,hrow,_⟩:=Jja hs.ht hp;injection ev with e1 e2 e3;subst e1;have hrow':=Zpf hrow;have hne:nlTs p (ts0++[t])=if Xfe t=true then (ts0++[t])++[⟨4,[59],p⟩] else ts0++[t]:=by simp [nlTs]
 refine Zk (Zn (Zu J (Vx J (Xa Qd J (Xn Us J (by first|exact (hs.grow g).B.at_ J) (Zu J (Zz J (fun _=>Xia (Zc J) Xv (fun _=>O)) (Jhb Ww J J O (Va Usb J J (hrow') (AM fun _ _ _ _ g E=>?_))))))))));refine AS fun _ _ _ g E=>?_;refine AU ?_;refine CG (fun hc=>Use _ _) (fun w30 g30=>?_);have g:=g.trans g30;replace E:=E.grow g30;refine Zz J (fun _=>Xo (Zc J) (Yc J id)) (Ze (kq (Um J (fun h2=>?_) (fun h2=>?_))));rw [if_pos (show Xfe t=true from h2)] at hne;have hl:(nlTs p (ts0++[t])).length≤p+1:=by rw [hne,Aka];exact Nat.succ_le_succ k1
 refine Xg [3,3,3,3,0,3,3,3,0,3,1,2,3,3,2] [true,true,true,true,true,true,true,true,true,true,true,true,true,true,true] [0,0,2,6,14,0,32,96,224,480,992,2046,4095,8191,16383] mix KR ?_;have g:=gdr g;replace E:=E.dr;refine Zu J (Zu J (Vx J (Xa Qd J (Xn Us J (by first|exact (hs.grow g).B.at_ J|exact E.g0.at_ J|exact E.g0.row) (Zu J (Vx J (Xa Yo J (Xn Yf J (by first|exact (hs.grow g).B.at_ J|exact E.g0.at_ J|exact E.g0.row) (Vzb Qv Uoa (pqc J (pqc J (pqc J pq0))) J J (CN fun _ _ N42 _ g E=>?_))))))))));have hb:=hb.trans (Yha g hs.base_le);have hs:=hs.grow g;have hz0:=hs.base_le;refine Ur J Ww Qv J Od (Zc J) hs.ht (Zc J) J N42.blk.row J (by simp only [maxLen];omega) O O ?_;intro ta' tc' w43 ht' hg43 hat;have hB:=hs.B.keep hg43 (Ne.symm hs.n1);have hz:=hg43.size;refine AU ?_;refine Xb J Yza (Zc J) (Zc J) J J hB J J ?_;intro w44 hg44 hz44 hB;have hb:=Zza (Zza hb hg43 hs.base_le (fun k hk=>(hs.ht.lt k hk).1)) hg44 (by have:=hs.base_le;omega) (fun k hk=>by injection hk with hk;have:=hs.hb;omega);have hs:=hs.putT (t:=⟨4,[59],p⟩) ht' hg43 hat hg44 hB;have g:=G.refl w44;refine AU ?_;refine Xb J Vca (Zc J) (Zc J) J J (hs.grow g).B J J ?_;intro w52 hg52 hz52 hB;have hb:=Wjb hb g hg52 hs.base_le hs.hb;have hs:=(hs.grow g).setp (q:=p+1) hg52 hB;refine Ze (Ypa J ?_);refine ⟨rfl,?_,hb⟩;rw [hne] at hl ⊢;exact hs.scn hl O O k4;rw [if_neg (by intro h;rw [Xfe,h2] at h;cases h)] at hne;have hl:(nlTs p (ts0++[t])).length≤p+1:=by rw [hne];omega
 refine AU ?_;refine Xb J Vca (Zc J) (Zc J) J J (hs.grow g).B J J ?_;intro w52 hg52 hz52 hB;have hb:=Wjb hb g hg52 hs.base_le hs.hb;have hs:=(hs.grow g).setp (q:=p+1) hg52 hB;refine Ze (Ypa J ?_);refine ⟨rfl,?_,hb⟩;rw [hne] at hl ⊢;exact hs.scn hl O O k4;have hp:ts=[]:=List.eq_nil_of_length_eq_zero (by simp only [Zbh] at h1;omega);have hne:nlTs p ts=ts:=by rw [hp];rfl
 have hl:(nlTs p ts).length≤p+1:=by rw [hne];omega
 refine AU ?_;refine Xb J Vca (Zc J) (Zc J) J J (hs.grow g).B J J ?_;intro w52 hg52 hz52 hB;have hb:=Wjb hb g hg52 hs.base_le hs.hb;have hs:=(hs.grow g).setp (q:=p+1) hg52 hB;refine Ze (Ypa J ?_);refine ⟨rfl,?_,hb⟩;rw [hne] at hl ⊢;exact hs.scn hl O O k4
def runN(q:Int→Bool):List UInt8→Nat
 | []=>0
 | c::l=>if q c.toNat=true then runN q l+1 else 0
theorem Jkc{q:Int→Bool}{s:List UInt8}{k:Nat}(h:k<s.length)(hq:q (s.getD k 0).toNat=true):runN q (s.drop k)=runN q (s.drop (k+1))+1:=by
 rw [Bia h,runN,if_pos (by simpa [Aga,Aca h] using hq)]
theorem Ute{q:Int→Bool}{s:List UInt8}{k:Nat}(h:k<s.length→q (s.getD k 0).toNat=false):runN q (s.drop k)=0:=by
 by_cases hk:k<s.length;rw [Bia hk,runN,if_neg];have:=h hk;simp [Aga,Aca hk] at this;simp [this];rw [Bha O];rfl
theorem Qvf(q:Int→Bool)(l:List UInt8):runN q l≤l.length:=by
 induction l with
 | nil=>exact Ada _
 | cons c l ih=>rw [runN];split <;> simp <;> omega
theorem Jnd(base b:Nat)(s:List UInt8)(p:Nat)(ts cs:List Tok)(w:Aa)(hs:Scn base b s p ts cs w)(f:Nat)(q:Int→Bool)(hgo:goFn PP f=true)(hf:∀ c w,Ret PP f #[.int .u8 c] w fun v w'=>v = .bool (q c)∧G w w') :
 Ret PP 176 #[.pointer (some ⟨b,0,none⟩),.func (.func f) #[] #[]] w fun v w'=>v = .int .i64 (runN q (s.drop p))∧G w w':=by
 obtain ⟨ta,tc,ca,cc,hs,k1,k2,k3,k4⟩:=hs.sa;have g:=G.refl w;refine WK 36 [0,1] Tryz.func176 ?_;refine AU ?_;refine Vlb (fun (n:Nat) u=>p+n≤s.length∧runN q (s.drop p)=n+runN q (s.drop (p+n))∧G w u) (fun n=>[(0,True,.pointer (some ⟨b,0,none⟩)),(1,True,.func (.func f) #[] #[]),(5,True,.int .i64 n)]) (fun n=>s.length-n) 0 ⟨O,by simp,g⟩ (Zb J (Zb J (Zb J (Zq _)))) ?_;rintro n u ⟨hn,he,g⟩;refine AU ?_;refine Xg [3,3,3,0,3,3,3,3,3,0,3,3,3,3,3,3,3,0,3,3,3,0,3,3,3,1,3] [true,true,true,true,true,true,true,true,true,true,true,true,true,true,true,true,true,true,true,true,true,true,true,true,true,true,true] [0,1,3,7,0,31,0,64,192,448,960,2047,4095,8191,8191,24575,57343,122879,8191,270335,794623,1843199,8191,8134655,16769023,33554431,67108863] mix KR ?_;have g:=gdr g;refine AU ?_;refine Zv J J J (fun _=>Jcb Ue (Yc J id) (Yc J id) (fun hc=>by have:=Zch hc.2;omega)) (Zha J J J (fun _=>(Zy hgo (Yc J id) (Yn (Yc J id) (Xw)) J)) (fun hc=>hf _ _) (fun w31 g31=>?_));have g:=g.trans g31;refine IF (fun h1=>?_) fun h1=>?_;simp only [Aja,Zah] at h1;obtain ⟨h1,h2⟩:=h1;have e:((p:Int)+n).toNat=p+n:=by omega
 rw [e] at h2;have hst:=Jkc O h2;refine AU ?_;refine SK [0,1,5] ?_;refine Ze (fun a ha=>?_);exact ⟨n+1,ha,⟨O,by rw [he,hst,Nat.add_assoc p n 1];omega,g⟩,O⟩
 have hst:runN q (s.drop (p+n))=0:=Ute fun hk=>by
  have e:((p:Int)+n).toNat=p+n:=by omega
  rw [e,Jyg (by omega:(p:Int)+n<s.length),Aua] at h1;exact h1
 refine RTN ?_;refine ⟨?_,g⟩;rw [he,hst];rfl
end Go.Rk
namespace Go.Rk
open Go.Proofs
open Go Go.Shelf Go.RowKit
def Yrd:Go.Shelf.Ren:=⟨fun|174=>183|247=>187|245=>188|287=>189|279=>190|280=>191|281=>192|282=>193|321=>194|322=>195|316=>196|171=>198|205=>197|243=>199|246=>200|283=>201|284=>202|285=>203|286=>204|129=>206|317=>205|318=>207|319=>208|320=>209|337=>210|338=>211|n=>n,fun|9=>9|3=>3|2=>2|75=>146|85=>147|4=>4|167=>152|5=>5|53=>120|175=>153|46=>155|168=>156|37=>160|0=>0|210=>162|21=>21|127=>164|145=>167|143=>165|171=>169|173=>172|212=>176|51=>177|20=>20|213=>178|232=>181|233=>182|80=>92|n=>n,fun|15=>8|16=>9|17=>10|18=>11|19=>12|n=>n⟩
theorem Vfd:Go.Proofs.LaysC.n174 PP Yrd:={
 mixed:=KR
 f129:=Tryz.func206.trans (congrArg some KR)
 f171:=Tryz.func198.trans (congrArg some KR)
 f174:=Tryz.func183.trans (congrArg some KR)
 f205:=Tryz.func197.trans (congrArg some KR)
 f243:=Tryz.func199.trans (congrArg some KR)
 f245:=Tryz.func188.trans (congrArg some KR)
 f246:=Tryz.func200.trans (congrArg some KR)
 f247:=Tryz.func187.trans (congrArg some KR)
 f279:=Tryz.func190.trans (congrArg some KR)
 f280:=Tryz.func191.trans (congrArg some KR)
 f281:=Tryz.func192.trans (congrArg some KR)
 f282:=Tryz.func193.trans (congrArg some KR)
 f283:=Tryz.func201.trans (congrArg some KR)
 f284:=Tryz.func202.trans (congrArg some KR)
 f285:=Tryz.func203.trans (congrArg some KR)
 f286:=Tryz.func204.trans (congrArg some KR)
 f287:=Tryz.func189.trans (congrArg some KR)
 f316:=Tryz.func196.trans (congrArg some KR)
 f317:=Tryz.func205.trans (congrArg some KR)
 f318:=Tryz.func207.trans (congrArg some KR)
 f319:=Tryz.func208.trans (congrArg some KR)
 f320:=Tryz.func209.trans (congrArg some KR)
 f321:=Tryz.func194.trans (congrArg some KR)
 f322:=Tryz.func195.trans (congrArg some KR)
 f337:=Tryz.func210.trans (congrArg some KR)
 f338:=Tryz.func211.trans (congrArg some KR)
 t0:=Tryz.underlying0
 a0:=Tryz.isAgg0
 z0:=Tryz.sizeOf0
 v0:=Tryz.zeroValue0
 t2:=Tryz.underlying2
 a2:=Tryz.isAgg2
 z2:=Tryz.sizeOf2
 v2:=Tryz.zeroValue2
 t3:=Tryz.underlying3
 a3:=Tryz.isAgg3
 z3:=Tryz.sizeOf3
 v3:=Tryz.zeroValue3
 t4:=Tryz.underlying4
 a4:=Tryz.isAgg4
 z4:=Tryz.sizeOf4
 v4:=Tryz.zeroValue4
 t5:=Tryz.underlying5
 a5:=Tryz.isAgg5
 z5:=Tryz.sizeOf5
 v5:=Tryz.zeroValue5
 t9:=Tryz.underlying9
 a9:=Tryz.isAgg9
 z9:=Tryz.sizeOf9
 v9:=Tryz.zeroValue9
 t20:=Tryz.underlying20
 a20:=Tryz.isAgg20
 z20:=Tryz.sizeOf20
 v20:=Tryz.zeroValue20
 t21:=Tryz.underlying21
 a21:=Tryz.isAgg21
 z21:=Tryz.sizeOf21
 v21:=Tryz.zeroValue21
 t37:=Tryz.underlying160
 a37:=Tryz.isAgg160
 z37:=Tryz.sizeOf160
 v37:=Tryz.zeroValue160
 t46:=Tryz.underlying155
 a46:=Tryz.isAgg155
 z46:=Tryz.sizeOf155
 v46:=Tryz.zeroValue155
 t51:=Tryz.underlying177
 a51:=Tryz.isAgg177
 z51:=Tryz.sizeOf177
 v51:=Tryz.zeroValue177
 t53:=Tryz.underlying120
 a53:=Tryz.isAgg120
 z53:=Tryz.sizeOf120
 v53:=Tryz.zeroValue120
 t75:=Tryz.underlying146
 a75:=Tryz.isAgg146
 z75:=Tryz.sizeOf146
 v75:=Tryz.zeroValue146
 t85:=Tryz.underlying147
 a85:=Tryz.isAgg147
 z85:=Tryz.sizeOf147
 v85:=Tryz.zeroValue147
 t127:=Tryz.underlying164
 a127:=Tryz.isAgg164
 z127:=Tryz.sizeOf164
 v127:=Tryz.zeroValue164
 t143:=Tryz.underlying165
 a143:=Tryz.isAgg165
 z143:=Tryz.sizeOf165
 v143:=Tryz.zeroValue165
 t145:=Tryz.underlying167
 a145:=Tryz.isAgg167
 z145:=Tryz.sizeOf167
 v145:=Tryz.zeroValue167
 t167:=Tryz.underlying152
 a167:=Tryz.isAgg152
 z167:=Tryz.sizeOf152
 v167:=Tryz.zeroValue152
 t168:=Tryz.underlying156
 a168:=Tryz.isAgg156
 z168:=Tryz.sizeOf156
 v168:=Tryz.zeroValue156
 t171:=Tryz.underlying169
 a171:=Tryz.isAgg169
 z171:=Tryz.sizeOf169
 v171:=Tryz.zeroValue169
 t173:=Tryz.underlying172
 a173:=Tryz.isAgg172
 z173:=Tryz.sizeOf172
 v173:=Tryz.zeroValue172
 t175:=Tryz.underlying153
 a175:=Tryz.isAgg153
 z175:=Tryz.sizeOf153
 v175:=Tryz.zeroValue153
 t210:=Tryz.underlying162
 a210:=Tryz.isAgg162
 z210:=Tryz.sizeOf162
 v210:=Tryz.zeroValue162
 t212:=Tryz.underlying176
 a212:=Tryz.isAgg176
 z212:=Tryz.sizeOf176
 v212:=Tryz.zeroValue176
 t213:=Tryz.underlying178
 a213:=Tryz.isAgg178
 z213:=Tryz.sizeOf178
 t232:=Tryz.underlying181
 a232:=Tryz.isAgg181
 z232:=Tryz.sizeOf181
 v232:=Tryz.zeroValue181
 t233:=Tryz.underlying182
 a233:=Tryz.isAgg182
 z233:=Tryz.sizeOf182
 v233:=Tryz.zeroValue182
 g15:=KR
 g16:=KR
 g17:=KR
 g18:=KR
 g19:=KR
 t80:=Tryz.underlying92
 a80:=Tryz.isAgg92
 z80:=Tryz.sizeOf92
 v80:=Tryz.zeroValue92
 i0:=KR
 i2:=KR
 i3:=KR
 i4:=KR
 i5:=KR
 i9:=KR
 i20:=KR
 i21:=KR
 i37:=KR
 i46:=KR
 i51:=KR
 i53:=KR
 i75:=KR
 i80:=KR
 i85:=KR
 i127:=KR
 i143:=KR
 i145:=KR
 i167:=KR
 i168:=KR
 i171:=KR
 i173:=KR
 i175:=KR
 i210:=KR
 i212:=KR
 i232:=KR
 i233:=KR
 m15:=KR
 m16:=KR
 m17:=KR
 m18:=KR
 m19:=KR
 c0:=KR
 c2:=KR
 c3:=KR
 c4:=KR
 c5:=KR
 c9:=KR
 c20:=KR
 c21:=KR
 c37:=KR
 c46:=KR
 c51:=KR
 c53:=KR
 c75:=KR
 c80:=KR
 c85:=KR
 c127:=KR
 c143:=KR
 c145:=KR
 c167:=KR
 c168:=KR
 c171:=KR
 c173:=KR
 c175:=KR
 c210:=KR
 c212:=KR
 c213:=KR
 c232:=KR
 c233:=by kernel_rfl }
def valN(a:Nat)(l:List UInt8):Nat:=l.foldl (fun a c=>a*10+(c.toNat-48)) a
def allD(l:List UInt8):Prop:=∀ c∈l,48≤c.toNat∧c.toNat≤57
theorem Jlc(a:Nat)(c:UInt8)(l:List UInt8):valN a (c::l)=valN (a*10+(c.toNat-48)) l:=List.foldl_cons ..
theorem Qwf(l:List UInt8):∀ a,a≤valN a l:=by
 induction l with
 | nil=>exact fun a=>Ada _
 | cons c l ih=>intro a;have:=ih (a*10+(c.toNat-48));rw [Jlc];omega
theorem Uwb(M:Nat)(hM:M=18446744073709551615):∀ (l:List UInt8) (a:Nat),allD l→Lib.parseUintM M a l=if l=[] then .ok a else if valN a l≤M then .ok (valN a l) else .range
 | [],a,_=>rfl
 | c::l,a,h=>by
  have hc:=h c (Ava ..);have ih:=Uwb M hM l (a*10+(c.toNat-48)) (fun x hx=>h x (Bja _ hx));have hge:=Qwf l (a*10+(c.toNat-48));rw [if_neg (by simp:¬ (c::l)=[]),Jlc];rw [Lib.parseUintM,if_pos hc];generalize hv:a*10+(c.toNat-48)=v at ih hge ⊢;by_cases h1:1844674407370955162≤a;rw [if_pos h1,if_neg O];rw [if_neg h1];by_cases h2:M<v;rw [if_pos h2,if_neg O];rw [if_neg h2,ih];by_cases hl:l=[];subst hl;rw [if_pos rfl];rw [if_pos (show valN v []≤M by show v≤M;omega)];rfl;rw [if_neg hl]
theorem Jac(l:List UInt8)(h:allD l)(hne:l≠[]):Lib.parseIntB 64 l=if valN 0 l<9223372036854775808 then .ok (valN 0 l:Int) else .range:=by
 cases l with
 | nil=>exact absurd rfl hne
 | cons c r =>
  have hc:=h c (Ava ..);have e1:(2:Nat) ^ (64-1)=9223372036854775808:=by decide
  have e2:(2:Nat) ^ 64-1=18446744073709551615:=by decide
  have hm:=Uwb _ rfl (c::r) 0 h;rw [if_neg (by simp:¬ (c::r)=[])] at hm;simp only [Lib.parseIntB,Lib.parseUintB,e1,e2];rw [if_neg (by omega:¬ (c.toNat=43∨c.toNat=45)),if_neg (by simp:¬ (c::r)=[]),hm];by_cases h2:valN 0 (c::r)≤18446744073709551615;rw [if_pos h2];by_cases h3:valN 0 (c::r)<9223372036854775808;rw [if_pos h3];simp only [];rw [if_neg O,if_neg O,if_neg O];rw [if_neg h3];simp only [];rw [if_pos O];rw [if_neg h2,if_neg O]
theorem Zqf(l:List UInt8)(h:allD l)(hne:l≠[])(hl:l.length≤20000)(w:Aa)(ev:Ga)(hv:w.cell? ⟨9,0,none⟩=some ev)(hev:ev = .nilIface∨∃ te pe,ev = .iface te pe) :
 Ret PP 183 #[Str l,.int .i64 10,.int .i64 64] w fun v w'=>(∃ x e,v = .tuple #[.int .i64 x,e]∧(e = .nilIface∨∃ a b,e = .iface a b)∧nilV e=decide (valN 0 l<9223372036854775808))∧G w w':=by
 have hp:=Jac l h hne;by_cases h3:valN 0 l<9223372036854775808;rw [if_pos h3] at hp;refine (Go.Proofs.Any.strconv_ParseInt_10_at64_ok Vfd ⟨l.toArray⟩ (by simp [ByteArray.size];omega) _ (by simpa using hp) w).mono ?_;rintro e w' ⟨rfl,hw⟩;refine ⟨_,rfl,⟨_,.nilIface,rfl,.inl rfl,by rw [Jyg h3];rfl⟩,?_⟩;rcases hw with rfl|⟨t,rfl⟩;exact G.refl _;exact Lib.bytesWorld_below _ _ _;rw [if_neg h3] at hp;refine (Go.Proofs.Any.strconv_ParseInt_10_at64_range Vfd ⟨l.toArray⟩ (by simp [ByteArray.size];omega) (by simpa using hp) ev w hv hev).mono ?_;rintro e w' ⟨N,rfl,_,_,hb⟩;exact ⟨_,rfl,⟨_,_,rfl,.inr ⟨_,_,rfl⟩,by rw [Jxg h3];rfl⟩,hb⟩
end Go.Rk
namespace Go.Rk
open Go.Proofs
open Go Go.RowKit
def opsL:List (List UInt8):=[[58,61],[61,61],[33,61],[60,61],[62,61],[38,38],[124,124],[60,45],[40],[41],[91],[93],[123],[125],[44],[59],[58],[46],[61],[60],[62],[43],[45],[42],[47],[37],[33]]
structure Laid (w:Aa):Prop where
  ops:RowAt w 7 0 (opsL.map Str)
  err:∃ ev,w.cell? ⟨9,0,none⟩=some ev∧(ev = .nilIface∨∃ te pe,ev = .iface te pe)
theorem Laid.below{w w':Aa}{base:Nat}(h:Laid w)(hb:10≤base)(g:Below base w w'):Laid w' :=
 ⟨fun j v hj=>(Below.cell g (show 7<base by omega)).trans (h.ops j v hj),by
 obtain ⟨ev,h1,h2⟩:=h.err;exact ⟨ev,(Below.cell g (show 9<base by omega)).trans h1,h2⟩⟩
theorem Laid.grow{w w':Aa}(h:Laid w)(g:G w w'):Laid w' :=
 ⟨h.ops.grow g,by
 obtain ⟨ev,h1,h2⟩:=h.err;exact ⟨ev,Zcb g h1,h2⟩⟩
def cAt(s:List UInt8)(p:Nat):Int:=((s.getD p 0).toNat:Int)
def isNotLf(c:Int):Bool:=!decide (c=10)
def isAlnum(c:Int):Bool:=letterB c || digitB c
def Uxb(l:List UInt8):Nat:=match opsL.find? (fun o=>preB o l) with
 | some o=>o.length
 | none=>0
def badD(s:List UInt8)(p n:Nat):Bool:=(decide (cAt s p=48)&&decide ((1:Int)<n)) || (decide ((p:Int)+n<s.length)&&letterB (cAt s (p+n)))
def wordK(l:List UInt8):Int:=bif inB kws l then 3 else 1
def nextF(s:List UInt8)(p:Nat)(ts cs:List Tok):Nat×List Tok×List Tok×Int :=
 bif decide (cAt s p=10) then (p+1,nlTs p ts,cs,0)
 else bif (decide (cAt s p=32) || decide (cAt s p=9)) || decide (cAt s p=13) then (p+1,ts,cs,0)
 else bif preB [47,47] (s.drop p) then (p+runN isNotLf (s.drop p),ts,cs++[⟨5,(s.drop p).take (runN isNotLf (s.drop p)),p⟩],0)
 else bif letterB (cAt s p) then bif decide ((32:Int)<runN isAlnum (s.drop p)) then (p,ts,cs,3)
  else (p+runN isAlnum (s.drop p),ts++[⟨wordK ((s.drop p).take (runN isAlnum (s.drop p))),(s.drop p).take (runN isAlnum (s.drop p)),p⟩],cs,0)
 else bif digitB (cAt s p) then bif badD s p (runN digitB (s.drop p)) then (p,ts,cs,4)
  else bif decide (valN 0 ((s.drop p).take (runN digitB (s.drop p)))<9223372036854775808) then (p+runN digitB (s.drop p),ts++[⟨2,(s.drop p).take (runN digitB (s.drop p)),p⟩],cs,0) else (p,ts,cs,4)
 else bif Aaa (Uxb (s.drop p)) 0 then (p,ts,cs,4)
 else (p+Uxb (s.drop p),ts++[⟨4,(s.drop p).take (Uxb (s.drop p)),p⟩],cs,0)
theorem Qva{q:Int→Bool}{s:List UInt8}{p:Nat}(h:p<s.length)(hq:q (cAt s p)=true):1≤runN q (s.drop p):=by rw [Jkc h hq];omega
theorem Zac(q:Int→Bool){s:List UInt8}{p:Nat}(h:p<s.length):p+runN q (s.drop p)≤s.length:=by
 have:=Qvf q (s.drop p);rw [Awa] at this;omega
theorem Vqc(q:Int→Bool):∀ (l:List UInt8),∀ c∈l.take (runN q l),q c.toNat=true
 | [],c,hc=>by cases hc
 | a::l,c,hc=>by
  rw [runN] at hc;split at hc;rename_i h;rw [Bka] at hc;rcases List.mem_cons.mp hc with rfl|hc;exact h;exact Vqc q l c hc;cases hc
theorem Vgd(s:List UInt8)(p:Nat):allD ((s.drop p).take (runN digitB (s.drop p))):=fun c hc=>by
 have:=Vqc digitB _ c hc;simp only [digitB,Aja,Zah] at this;omega
theorem Qxf{i:Nat}(h:i<27):(opsL.map Str).toArray[i]? = some (Str (opsL.getD i [])):=by
 have hl:opsL.length=27:=rfl;simp [Aga,Aca (show i<opsL.length by omega)]
theorem Zrf:∀ i<27,1≤(opsL.getD i []).length:=by decide
theorem Jod{l:List UInt8}{i:Nat}(h:i<27)(h1:∀ j<i,preB (opsL.getD j []) l=false)(h2:preB (opsL.getD i []) l=true):Uxb l=(opsL.getD i []).length:=by
 have hl:opsL.length=27:=rfl
 have:opsL.find? (fun o=>preB o l)=some (opsL.getD i []):=by
  rw [Bla];refine ⟨h2,i,O,?_,fun j hj=>?_⟩;simp [Aga,Aca (show i<opsL.length by omega)];have:=h1 j hj;simp [Aga,Aca (show j<opsL.length by omega)] at this;simp [this]
 rw [Uxb,this]
theorem Jpd{l:List UInt8}(h1:∀ j<27,preB (opsL.getD j []) l=false):Uxb l=0:=by
 have hl:opsL.length=27:=rfl
 have:opsL.find? (fun o=>preB o l)=none:=by
  rw [Bma];intro o ho;obtain ⟨j,hj,rfl⟩:=Aqa ho;have:=h1 j O;simp [Aga,Aca hj] at this;simp [this]
 rw [Uxb,this]
theorem Zsf{o l:List UInt8}(h:preB o l=true):o.length≤l.length∧l.take o.length=o:=by
 simpa [preB] using h
theorem Qyf(base b:Nat)(hb3:10≤base)(s:List UInt8)(p:Nat)(ts cs:List Tok)(w:Aa)(hL:Laid w)(hs:Scn base b s p ts cs w)(hp:p<s.length) :
 Ret PP 168 #[.pointer (some ⟨b,0,none⟩)] w fun v w'=>v = .int .i64 (nextF s p ts cs).2.2.2∧Scn base b s (nextF s p ts cs).1 (nextF s p ts cs).2.1 (nextF s p ts cs).2.2.1 w'∧Below base w w':=by
 obtain ⟨ta,tc,ca,cc,hs,k1,k2,k3,k4⟩:=hs.sa;have g:=G.refl w;refine Ul (m:=204) Tryz.func168 J J [(0,True,_)] (Zb J (Zq _)) ?_;refine Zk (Zn (Xf J (Ze (kq (Zk (Xg [3,3,3,0,3,3,3,0,3,3] [true,true,true,true,true,true,true,true,true,true] [0,1,3,7,0,16,48,112,255,511] mix KR ?_))))));have g:=gdr g;refine Zu J (Vx J (Xa Wl J (Xn Xc J (by first|exact (hs.grow g).B.at_ J) (Zu J (Vx J (Xa Yo J (Xn Yf J (by first|exact (hs.grow g).B.at_ J) (Zz J (fun _=>Jcb Ue (Zc J) (Zc J) (fun _=>O)) (Xf J (Ze (kq (Zk (Yw (Zk (Zn (Zu J (?_)))))))))))))))));refine Yjb J J (Xf J (Ze (kq (Um J (fun h1=>?_) (fun h1=>?_)))));replace h1:decide (cAt s p=10)=true:=h1;have hN:nextF s p ts cs=(p+1,nlTs p ts,cs,0):=by unfold nextF;rw [h1];rfl
 refine Zn (Zu J (CL (Jmd base b s p ts cs _ ((hs.grow g).scn k1 k2 k3 k4) hp) ?_));rintro v45 w45 ⟨rfl,hs',hb'⟩;refine ⟨nw1,?_⟩;have hb':=(Yha g hs.base_le).trans hb';refine Ze (kq (Zk (Zn (Xf J (Ze (kq (We (Vz J J ?_))))))));rw [hN];exact ⟨rfl,hs',hb'⟩;replace h1:decide (cAt s p=10)=false:=h1;refine Zk (Zn (Zu J (Yjb J J (Zu J (Zv J J J (fun _=>Zw (Zc J)) (Zv J J J (fun _=>Wna (Yc J id) Xv) (Zz J (fun _=>Xo (Zc J) (Yc J id)) (Zu J (Zv J J J (fun _=>Zw (Zc J)) (Zv J J J (fun _=>Wna (Yc J id) Xv) (Zz J (fun _=>Xo (Zc J) (Yc J id)) (Xf J (Ze (kq (Um J (fun h2=>?_) (fun h2=>?_))))))))))))))));replace h2:((decide (cAt s p=32) || decide (cAt s p=9)) || decide (cAt s p=13))=true:=h2;have hN:nextF s p ts cs=(p+1,ts,cs,0):=by unfold nextF;rw [h1,h2];rfl
 refine Zn (Zu J (Vx J (Xa Yo J (Xn Yf J (by first|exact (hs.grow g).B.at_ J) (Zeb J J O (Vx J (Xa Yo J (Xb J Vca (Zc J) (Zc J) J J (hs.grow g).B J J ?_))))))));intro w63 hg63 hz63 hB;have hb':=Wjb (Below.refl _ _) g hg63 hs.base_le hs.hb;have hs':=((hs.grow g).setp (q:=p+1) hg63 hB).scn O O O k4;refine Ze (kq (Zk (Zn (Xf J (Ze (kq (We (Vz J J ?_))))))));rw [hN];exact ⟨rfl,hs',hb'⟩;replace h2:((decide (cAt s p=32) || decide (cAt s p=9)) || decide (cAt s p=13))=false:=h2;refine Zk (Xg [3,3,3,0,3,3,3,0,3,1,3] [true,true,true,true,true,true,true,true,true,true,true] [0,1,3,7,0,16,48,112,255,511,1023] mix KR ?_);have g:=gdr g;refine Zu J (Vx J (Xa Wl J (Xn Xc J (by first|exact (hs.grow g).B.at_ J) (Zu J (Vx J (Xa Yo J (Xn Yf J (by first|exact (hs.grow g).B.at_ J) (Zz J (fun _=>Xqb Ue (Zc J) (Zc J) (fun _=>O)) (Uv J (Zy Wpa Wz (aqc J (aqc J aq0)) J) (Uvb _ _ _) (fun w74 g74=>?_))))))))));have g:=g.trans g74;refine Xf J (Ze (kq (Um J (fun h3=>?_) (fun h3=>?_))));replace h3:preB [47,47] (s.drop p)=true:=h3;have hn:=Qva (q:=isNotLf) hp (by rw [isNotLf,h1];rfl);have hf:=Zac isNotLf hp;have hN:nextF s p ts cs=(p+runN isNotLf (s.drop p),ts,cs++[⟨5,(s.drop p).take (runN isNotLf (s.drop p)),p⟩],0):=by unfold nextF;rw [h1,h2,h3];rfl
 have e:((p:Int)+(runN isNotLf (s.drop p):Nat)).toNat-(p:Int).toNat=runN isNotLf (s.drop p):=by omega
 refine Zk (Zn (Zu J (Uv J (Zy Yra Wz (aqc J (aqc J aq0)) J) (Jnd base b s p ts cs _ ((hs.grow g).scn k1 k2 k3 k4) _ isNotLf Ynb Znf) (fun w76 g76=>?_))));have g:=g.trans g76;refine Xf J (Ze (kq (Zk (Xg [3,3,3,3,0,3,3,3,0,3,3,3,0,3,3,3,0,3,3,3,3,3,3,0,3,1,2,3,3,2] [true,true,true,true,true,true,true,true,true,true,true,true,true,true,true,true,true,true,true,true,true,true,true,true,true,true,true,true,true,true] [0,0,2,6,14,0,32,96,224,0,512,1536,3584,0,8192,24576,57344,0,253952,524256,0,1048576,3145728,7340032,16777184,33554400,67108862,134217727,268435455,536870911] mix KR ?_))));have g:=gdr g;refine Zu J (Zu J (Vx J (Xa Xpa J (Xn Us J (by first|exact (hs.grow g).B.at_ J) (Zu J (Vx J (Xa Wl J (Xn Xc J (by first|exact (hs.grow g).B.at_ J) (Zu J (Vx J (Xa Yo J (Xn Yf J (by first|exact (hs.grow g).B.at_ J) (Zu J (Vx J (Xa Yo J (?_))))))))))))))));refine Xn Yf J (by first|exact (hs.grow g).B.at_ J) (Zu J (Zeb J J O (Zz J (fun _=>Zyc Ue (Zc J) (Zc J) (Zc J) (fun _=>O)) (Zu J (Vx J (Xa Yo J (Xn Yf J (by first|exact (hs.grow g).B.at_ J) (Vzb Qv Uoa (pqc J (pqc J (pqc J pq0))) J J (CM fun _ _ N102 _ g E=>?_)))))))));have hb:=Yha g hs.base_le;have hs:=hs.grow g;have hz0:=hs.base_le;refine Ur J Ww Qv J Od (Zc J) hs.hc (Zc J) J N102.blk.row J (by simp only [maxLen];omega) O O ?_;intro ca' cc' w103 hc' hg103 hat;have hB:=hs.B.keep hg103 (Ne.symm hs.n2);have hz:=hg103.size;refine Vx J (Xa Xpa J (Xb J Yza (Zc J) (Zc J) J J hB J J ?_));intro w105 hg105 hz105 hB
 have hb:=Zza (Zza hb hg103 hs.base_le (fun k hk=>(hs.hc.lt k hk).1)) hg105 (by have:=hs.base_le;omega) (fun k hk=>by injection hk with hk;have:=hs.hb;omega);rw [e] at hc';have hs:=hs.putC (t:=⟨5,(s.drop p).take (runN isNotLf (s.drop p)),p⟩) hc' hg103 hat hg105 hB;have g:=G.refl w105;refine Ze (kq (Zn (Zu J (Vx J (Xa Yo J (Xn Yf J (by first|exact (hs.grow g).B.at_ J|exact E.g0.at_ J|exact E.g0.row) (Zu J (Zeb J J O (Vx J (Xa Yo J (Xb J Vca (Zc J) (Zc J) J J (hs.grow g).B J J ?_)))))))))));intro w113 hg113 hz113 hB;have hb':=Wjb hb g hg113 hs.base_le hs.hb;have hs':=((hs.grow g).setp (q:=p+runN isNotLf (s.drop p)) hg113 hB).scn O (by rw [Aka];show cs.length+1≤_;omega) hf k4;refine Vh [(2,_,_)] (Zb J (Zq _)) (Ze (kq (Zk (Zn (Xf J (Ze (kq (We (Vz J J ?_)))))))));rw [hN];exact ⟨rfl,hs',hb'⟩;replace h3:preB [47,47] (s.drop p)=false:=h3;refine Zk (Zn (Zu J (Uv J (Zy Wbb Wz (aqc J aq0) J) (Ync _ _) (fun w116 g116=>?_))));have g:=g.trans g116;refine Xf J (Ze (kq (Um J (fun h4=>?_) (fun h4=>?_))));replace h4:letterB (cAt s p)=true:=h4;have hn:=Qva (q:=isAlnum) hp (by rw [isAlnum,h4];rfl);have hf:=Zac isAlnum hp;have e:((p:Int)+(runN isAlnum (s.drop p):Nat)).toNat-(p:Int).toNat=runN isAlnum (s.drop p):=by omega
 refine Zk (Zn (Zu J (Uv J (Zy Yra Wz (aqc J (aqc J aq0)) J) (Jnd base b s p ts cs _ ((hs.grow g).scn k1 k2 k3 k4) _ isAlnum Yob Zof) (fun w118 g118=>?_))));have g:=g.trans g118;refine Xf J (Ze (kq (Zk (Zk (Zn (Zu J (Qpf J J (Ze (kq (Um J (fun h5=>?_) (fun h5=>?_)))))))))));have hN:nextF s p ts cs=(p,ts,cs,3):=by unfold nextF;rw [h1,h2,h3,h4,h5];rfl
 have hs':=(hs.grow g).scn k1 k2 k3 k4;have hb':=Yha g hs.base_le;refine Zk (Zn (Xf J (Ze (kq (We (Vz J J ?_))))));rw [hN];exact ⟨rfl,hs',hb'⟩;refine Yu (kq (Zk (Zn (Xf J (Ze (kq (Zk (Zk (Xg [3,3,3,0,3,3,3,0,3,3,3,0,3,3,3,1] [true,true,true,true,true,true,true,true,true,true,true,true,true,true,true,true] [0,1,3,7,0,16,48,112,0,256,768,1792,0,7936,16383,32767] mix KR ?_)))))))));have g:=gdr g;refine Zu J (Vx J (Xa Wl J (Xn Xc J (by first|exact (hs.grow g).B.at_ J) (Zu J (Vx J (Xa Yo J (Xn Yf J (by first|exact (hs.grow g).B.at_ J) (Zu J (Vx J (Xa Yo J (Xn Yf J (by first|exact (hs.grow g).B.at_ J) (Zu J (Zeb J J O (Zz J (fun _=>Zyc Ue (Zc J) (Zc J) (Zc J) (fun _=>O)) (Uv J (Zy Wec Wz (aqc J aq0) J) (Jld _ _) (fun w136 g136=>?_))))))))))))))));have g:=g.trans g136;refine Ze (kq (Um J (fun h6=>?_) (fun h6=>?_)));rw [e] at h6;replace h6:inB kws ((s.drop p).take (runN isAlnum (s.drop p)))=true:=h6;have hN:nextF s p ts cs=(p+runN isAlnum (s.drop p),ts++[⟨3,(s.drop p).take (runN isAlnum (s.drop p)),p⟩],cs,0):=by unfold nextF;rw [h1,h2,h3,h4,h5,wordK,h6];rfl
 refine Zn (Xf J (Ze (kq (Zn (Zu J (Zu J (Zu J (CL (Yqd base b s p ts cs _ _ _ ((hs.grow g).scn k1 k2 k3 k4) hn hf) ?_))))))));rintro v140 w140 ⟨rfl,hs',hb'⟩;refine ⟨nw1,?_⟩;have hb':=(Yha g hs.base_le).trans hb';refine Ze (kq (Zk (Zn (Xf J (Ze (kq (We (Vz J J ?_))))))));rw [hN];exact ⟨rfl,hs',hb'⟩;rw [e] at h6;replace h6:inB kws ((s.drop p).take (runN isAlnum (s.drop p)))=false:=h6;have hN:nextF s p ts cs=(p+runN isAlnum (s.drop p),ts++[⟨1,(s.drop p).take (runN isAlnum (s.drop p)),p⟩],cs,0):=by unfold nextF;rw [h1,h2,h3,h4,h5,wordK,h6];rfl
 refine Yu (kq (Zn (Zu J (Zu J (Zu J (CL (Yqd base b s p ts cs _ _ _ ((hs.grow g).scn k1 k2 k3 k4) hn hf) ?_))))));rintro v140 w140 ⟨rfl,hs',hb'⟩;refine ⟨nw1,?_⟩;have hb':=(Yha g hs.base_le).trans hb';refine Ze (kq (Zk (Zn (Xf J (Ze (kq (We (Vz J J ?_))))))));rw [hN];exact ⟨rfl,hs',hb'⟩;replace h4:letterB (cAt s p)=false:=h4;refine Zk (Zn (Zu J (Uv J (Zy Upb Wz (aqc J aq0) J) (Vpc _ _) (fun w143 g143=>?_))));have g:=g.trans g143;refine Xf J (Ze (kq (Um J (fun h7=>?_) (fun h7=>?_))));replace h7:digitB (cAt s p)=true:=h7;have hn:=Qva (q:=digitB) hp h7;have hf:=Zac digitB hp;have e:((p:Int)+(runN digitB (s.drop p):Nat)).toNat-(p:Int).toNat=runN digitB (s.drop p):=by omega
 refine Zk (Zn (Zu J (Uv J (Zy Yra Wz (aqc J (aqc J aq0)) J) (Jnd base b s p ts cs _ ((hs.grow g).scn k1 k2 k3 k4) _ digitB Upb Vpc) (fun w145 g145=>?_))));have g:=g.trans g145;refine Xf J (Ze (kq (Zk (Zk (Xg [3,3,3,3,3,3,3,3,3,3,0,3,3,3,3,3,0,3,3,3,3,3,3,0,3,3,3,0,3,3,3,1,3,3] [true,true,true,true,true,true,true,true,true,true,true,true,true,true,true,true,true,true,true,true,true,true,true,true,true,true,true,true,true,true,true,true,true,true] [0,1,3,7,15,31,63,127,255,511,1023,127,4095,127,8319,24703,57471,123007,262143,524287,1048575,2097151,4194303,8388607,1048575,17825791,51380223,118489087,1048575,521142271,1073741823,2147483647,4294967295,8589934591] mix KR ?_)))));have g:=gdr g;refine Zu J (Yjb J J (Zu J (Zv J J J (fun _=>Zw (Zc J)) (Zv J J J (fun _=>Jfc (Yc J id) Xv) (Zz J (fun _=>Wn (Zc J) (Yc J id)) (Zu J (Zv J J J (fun _=>Zw (Zc J)) (Zv J J J (fun _=>Zxa (Yc J id)) (Zv J J J (fun _=>Zh Yo (Yc J id)) (Wb J J J (Zt Yf (Yc J id) (fun _=>by first|exact (hs.grow g).B.at_ J)) (Zv J J J (fun _=>Zw (Zc J)) (Zv J J J (fun _=>Qdb (Yc J id) (Yc J id) (fun _=>O)) (Zv J J J (fun _=>Zw (Zc J)) (Zv J J J (fun _=>Zxa (Yc J id)) (Zv J J J (fun _=>Zh Wl (Yc J id)) (?_))))))))))))))))
 refine Wb J J J (Zt Xc (Yc J id) (fun _=>by first|exact (hs.grow g).B.at_ J)) (Zv J J J (fun _=>Jbb Ue (Yc J id)) (Zv J J J (fun _=>Jec (Yc J id) (Yc J id)) (Zv J J J (fun _=>Zw (Yc J id)) (Zv J J J (fun _=>Zw (Zc J)) (Zv J J J (fun _=>Zxa (Yc J id)) (Zv J J J (fun _=>Zh Wl (Yc J id)) (Wb J J J (Zt Xc (Yc J id) (fun _=>by first|exact (hs.grow g).B.at_ J)) (Zv J J J (fun _=>Zw (Zc J)) (Zv J J J (fun _=>Zxa (Yc J id)) (Zv J J J (fun _=>Zh Yo (Yc J id)) (Wb J J J (Zt Yf (Yc J id) (fun _=>by first|exact (hs.grow g).B.at_ J)) (Zv J J J (fun _=>Zw (Zc J)) (Zv J J J (fun _=>Qdb (Yc J id) (Yc J id) (fun _=>O)) (Zv J J J (fun _=>Jcb Ue (Yc J id) (Yc J id) (fun hc=>by have:=Zch hc.2;omega)) (Zha J J J (fun _=>(Zy Wbb Wz (Yn (Yc J id) (Xw)) J)) (fun hc=>Ync _ _) (fun w177 g177=>?_))))))))))))))));have g:=g.trans g177;refine Zv J J J (fun _=>Wn (Yc J id) (Yc J id)) (Zz J (fun _=>Xo (Zc J) (Yc J id)) (Vh [(0,_,_),(2,_,_),(7,_,_),(179,_,_)] (Zb J (Zb J (Zb J (Zb J (Zq _))))) (Ze (kq (Um J (fun h8=>?_) (fun h8=>?_))))));replace h8:badD s p (runN digitB (s.drop p))=true:=h8;have hN:nextF s p ts cs=(p,ts,cs,4):=by unfold nextF;rw [h1,h2,h3,h4,h7,h8];rfl
 have hs':=(hs.grow g).scn k1 k2 k3 k4;have hb':=Yha g hs.base_le;refine Zk (Zn (Xf J (Ze (kq (We (Vz J J ?_))))));rw [hN];exact ⟨rfl,hs',hb'⟩;replace h8:badD s p (runN digitB (s.drop p))=false:=h8;obtain ⟨ev,he1,he2⟩:=hL.err;have hdl:((s.drop p).take (runN digitB (s.drop p))).length=runN digitB (s.drop p):=by rw [Baa,Awa];omega
 refine Yu (kq (Zk (Zk (Xg [3,3,3,0,3,3,3,0,3,3,3,0,3,3,3,1,3,3,3,3,3] [true,true,true,true,true,true,true,true,true,true,true,true,true,true,true,true,true,true,true,true,true] [0,1,3,7,0,16,48,112,0,256,768,1792,0,7936,16383,32767,65535,131071,131071,262143,1048575] mix KR ?_))));have g:=gdr g;refine Zu J (Vx J (Xa Wl J (Xn Xc J (by first|exact (hs.grow g).B.at_ J) (Zu J (Vx J (Xa Yo J (Xn Yf J (by first|exact (hs.grow g).B.at_ J) (Zu J (Vx J (Xa Yo J (Xn Yf J (by first|exact (hs.grow g).B.at_ J) (Zu J (Zeb J J O (Zz J (fun _=>Zyc Ue (Zc J) (Zc J) (Zc J) (fun _=>O)) (Xe J (Zy Ucb Wz (aqc J (aqc J (aqc J aq0))) J) (Zqf _ (by rw [e];exact Vgd s p) (by rw [e];intro h0;have h0:=congrArg List.length h0;rw [show (List.take (runN digitB (s.drop p)) (List.drop (p:Int).toNat s)).length=runN digitB (s.drop p) from hdl] at h0;simp at h0;omega) (by rw [e];show ((s.drop p).take (runN digitB (s.drop p))).length≤20000;omega) _ ev (Zcb g he1) he2) ?_)))))))))))))));rintro v196 w196 ⟨⟨x,er,rfl,her,hnil⟩,g196⟩;refine ⟨fun _=>g196,?_⟩;have g:=g.trans g196;replace hnil:nilV er=decide (valN 0 ((s.drop p).take (runN digitB (s.drop p)))<9223372036854775808):=by rw [e] at hnil;exact hnil
 refine Zu J (Ju J J (Ju J J (Xf J (Xf J (Ze (kq (Zk (Zn (Zu J (Zz J (fun _=>Jgd Vad (Zc J) her) (Ze (kq (Um J (fun h9=>?_) (fun h9=>?_))))))))))))));have h9:decide (valN 0 ((s.drop p).take (runN digitB (s.drop p)))<9223372036854775808)=false:=by replace h9:(!nilV er)=true:=h9;rw [hnil] at h9;simpa using h9
 have hN:nextF s p ts cs=(p,ts,cs,4):=by unfold nextF;rw [h1,h2,h3,h4,h7,h8,h9];rfl
 have hs':=(hs.grow g).scn k1 k2 k3 k4;have hb':=Yha g hs.base_le;refine Zk (Zn (Xf J (Ze (kq (We (Vz J J ?_))))));rw [hN];exact ⟨rfl,hs',hb'⟩;have h9:decide (valN 0 ((s.drop p).take (runN digitB (s.drop p)))<9223372036854775808)=true:=by replace h9:(!nilV er)=false:=h9;rw [hnil] at h9;simpa using h9
 have hN:nextF s p ts cs=(p+runN digitB (s.drop p),ts++[⟨2,(s.drop p).take (runN digitB (s.drop p)),p⟩],cs,0):=by unfold nextF;rw [h1,h2,h3,h4,h7,h8,h9];rfl
 refine Yu (kq (Zn (Zu J (Zu J (CL (Yqd base b s p ts cs _ _ _ ((hs.grow g).scn k1 k2 k3 k4) hn hf) ?_)))));rintro v203 w203 ⟨rfl,hs',hb'⟩;refine ⟨nw1,?_⟩;have hb':=(Yha g hs.base_le).trans hb';refine Ze (kq (Zk (Zn (Xf J (Ze (kq (We (Vz J J ?_))))))));rw [hN];exact ⟨rfl,hs',hb'⟩;replace h7:digitB (cAt s p)=false:=h7;refine Zk (Zk (Zn (Va Uub J J ((hL.grow g).ops) (Zu J (Ze (kq (Yw (Vlb (fun (i:Nat) u=>i≤27∧(∀ j<i,preB (opsL.getD j []) (s.drop p)=false)∧G w u) (fun i=>[(0,True,.pointer (some ⟨b,0,none⟩)),(21,True,.agg (opsL.map Str).toArray),(22,True,.int .i64 i)]) (fun i=>27-i) 0 ⟨O,by intro j hj;omega,g⟩ (Zb J (Zb J (Zb J (Zq _)))) ?_))))))));rintro i u ⟨hi,hpre,g⟩;refine Zk (Zn (Ykb J J (Ze (kq (Zk (Um J (fun h10=>?_) (fun h10=>?_)))))));simp only [Zah] at h10;have hi27:i<27:=by omega
 refine Yu (kq (Zk (Yw (Zk (Zn (Zz J (fun _=>Xde Ykd (Zc J) (Zc J) (fun _=>O) (fun _=>Qxf hi27)) (Xf J (Ze (kq (Zk (Xg [3,3,3,0,3,3,3,0,3,3,1] [true,true,true,true,true,true,true,true,true,true,true] [0,1,3,7,0,16,48,112,255,0,1023] mix KR ?_)))))))))));have g:=gdr g;refine Zu J (Vx J (Xa Wl J (Xn Xc J (by first|exact (hs.grow g).B.at_ J) (Zu J (Vx J (Xa Yo J (Xn Yf J (by first|exact (hs.grow g).B.at_ J) (Zz J (fun _=>Xqb Ue (Zc J) (Zc J) (fun _=>O)) (Zu J (Uv J (Zy Wpa Wz (aqc J (aqc J aq0)) J) (Uvb _ _ _) (fun w35 g35=>?_)))))))))));have g:=g.trans g35;refine Ze (kq (Um J (fun h11=>?_) (fun h11=>?_)));replace h11:preB (opsL.getD i []) (s.drop p)=true:=h11;have h0:=Jod hi27 hpre h11;have hn:=Zrf i hi27;have hf:p+(opsL.getD i []).length≤s.length:=by have:=(Zsf h11).1;rw [Awa] at this;omega
 have hN:nextF s p ts cs=(p+(opsL.getD i []).length,ts++[⟨4,(s.drop p).take (opsL.getD i []).length,p⟩],cs,0):=by
  unfold nextF;rw [h1,h2,h3,h4,h7,h0,show Aaa (opsL.getD i []).length 0=false by rw [Bool.eq_false_iff];intro h;have:=Bna h;omega];rfl
 refine Zk (Zn (Zu J (Zu J (Zz J (fun _=>Jbb Ue (Zc J)) (CL (Yqd base b s p ts cs _ _ _ ((hs.grow g).scn k1 k2 k3 k4) hn hf) ?_)))));rintro v39 w39 ⟨rfl,hs',hb'⟩;refine ⟨nw1,?_⟩;have hb':=(Yha g hs.base_le).trans hb';refine Ze (kq (Zk (Zn (Xf J (Ze (kq (We (Vz J J ?_))))))));rw [hN];exact ⟨rfl,hs',hb'⟩;refine Yu (kq (Zn (Zeb J J O (Zu J (Vh [(0,_,_),(21,_,_),(22,_,_)] (Zb J (Zb J (Zb J (Zq _)))) (Ze (fun a ha=>?_)))))))
 exact ⟨i+1,ha,⟨O,by
  intro j hj;by_cases e:j=i;rw [e];exact h11;exact hpre j O,g⟩,O⟩
 simp only [Zbh] at h10;have hi27:i=27:=by omega
 subst hi27;have h0:=Jpd hpre;have hN:nextF s p ts cs=(p,ts,cs,4):=by unfold nextF;rw [h1,h2,h3,h4,h7,h0];rfl
 have hs':=(hs.grow g).scn k1 k2 k3 k4;have hb':=Yha g hs.base_le;refine Xka J (kq (Zk (Zn (Xf J (Ze (kq (We (Vz J J ?_))))))));rw [hN];exact ⟨rfl,hs',hb'⟩
def goF(s:List UInt8):Nat→Nat→List Tok→List Tok→Nat×List Tok×List Tok×Int
 | 0,p,ts,cs=>(p,ts,cs,0)
 | f+1,p,ts,cs=>bif decide (p<s.length) then bif decide ((nextF s p ts cs).2.2.2=0) then goF s f (nextF s p ts cs).1 (nextF s p ts cs).2.1 (nextF s p ts cs).2.2.1 else nextF s p ts cs else (p,ts,cs,0)
def allF(s:List UInt8):Nat×List Tok×List Tok×Int:=bif decide ((20000:Int)<s.length) then (0,[],[],3) else goF s s.length 0 [] []
theorem Ztf{s:List UInt8}{p:Nat}{ts cs:List Tok}(h:p<s.length)(he:(nextF s p ts cs).2.2.2=0):p<(nextF s p ts cs).1:=by
 unfold nextF at he ⊢;cases h1:decide (cAt s p=10);cases h2:((decide (cAt s p=32) || decide (cAt s p=9)) || decide (cAt s p=13));cases h3:preB [47,47] (s.drop p);cases h4:letterB (cAt s p);cases h7:digitB (cAt s p);cases h8:Aaa (Uxb (s.drop p)) 0;simp only [Zfh,Zeh];have:Uxb (s.drop p)≠0:=by intro h0;rw [h0] at h8;cases h8
 omega;rw [h1,h2,h3,h4,h7,h8] at he;simp at he;have:=Qva (q:=digitB) h h7;rw [h1,h2,h3,h4,h7] at he;cases h8:badD s p (runN digitB (s.drop p));rw [h8] at he;cases h9:decide (valN 0 ((s.drop p).take (runN digitB (s.drop p)))<9223372036854775808);rw [h9] at he;simp at he;simp only [Zfh,Zeh];omega;rw [h8] at he;simp at he;have:=Qva (q:=isAlnum) h (by rw [isAlnum,h4];rfl);rw [h1,h2,h3,h4] at he;cases h5:decide ((32:Int)<runN isAlnum (s.drop p));simp only [Zfh,Zeh];omega;rw [h5] at he;simp at he;have:=Qva (q:=isNotLf) h (by rw [isNotLf,h1];rfl);simp only [Zfh,Zeh];omega;simp only [Zfh,Zeh];omega;simp only [Zfh,Zeh];omega
theorem Vag(s:List UInt8)(w:Aa)(hL:Laid w)(hb3:10≤w.heap.size) :
 Ret PP 156 #[Str s] w fun v w'=>∃ b ta tc ca cc,v = .tuple #[.pointer (some ⟨b,0,none⟩),.int .i64 (allF s).2.2.2]∧SA w.heap.size b s (allF s).1 (allF s).2.1 (allF s).2.2.1 ta tc ca cc w'∧G w w':=by
 have g:=G.refl w;refine WK 27 [0] Tryz.func156 ?_;refine BM fun b8 w8 _ l8 g E=>?_;refine IF (fun h1=>?_) fun h1=>?_;have hN:allF s=(0,[],[],3):=by unfold allF;rw [h1];rfl
 refine RTN ?_;rw [hN];exact ⟨b8,none,0,none,0,rfl,⟨E.g0,l8,Jk _ _ _ _,Jk _ _ _ _,(by intro h;cases h),(by intro h;cases h),(by intro k h;cases h)⟩,g⟩;have hN:allF s=goF s s.length 0 [] []:=by unfold allF;rw [h1];rfl
 simp only [Zbh] at h1;refine Yu (kq (Zk (Yw (?_))))
 refine Vlb (fun (x:Nat×List Tok×List Tok×Nat) u=>Scn w.heap.size b8 s x.1 x.2.1 x.2.2.1 u∧s.length-x.1≤x.2.2.2∧goF s x.2.2.2 x.1 x.2.1 x.2.2.1=goF s s.length 0 [] []∧G w u) (fun _=>[(0,True,Str s),(4,True,.pointer (some ⟨b8,0,none⟩))]) (fun x=>s.length-x.1) (0,[],[],s.length)
  ⟨(show SA w.heap.size b8 s 0 [] [] none 0 none 0 w8 from ⟨E.g0,l8,Jk _ _ _ _,Jk _ _ _ _,(by intro h;cases h),(by intro h;cases h),(by intro k h;cases h)⟩).scn (Aha _) (Aha _) (Aha _) O,Nat.sub_le _ _,rfl,g⟩ (Zb rfl (Zb rfl (Zq _))) ?_
 rintro ⟨p,ts,cs,f⟩ u ⟨hs,hf,he,g⟩;simp only at hs hf he;obtain ⟨ta,tc,ca,cc,hA,k1,k2,k3,k4⟩:=hs.sa;refine Zk (Zk (Zn (Zu J (Vx J (Xa Yo J (Xn Yf J (hA.B.at_ J) (Zu J (Zz J (fun _=>Jbb Ue (Zc J)) (Ykb J J (Ze (kq (Um J (fun h2=>?_) (fun h2=>?_)))))))))))));replace h2:p<s.length:=by simp only [Zah] at h2;omega
 obtain ⟨f',rfl⟩:∃ f',f=f'+1:=⟨f-1,O⟩;rw [goF,Jyg h2,Zfh] at he;refine AU ?_;refine CL (Qyf _ _ hb3 s p ts cs _ (hL.grow g) hs h2) ?_;rintro v21 w21 ⟨rfl,hs',hb'⟩;refine ⟨nw1,?_⟩;have g:G w w21:=Below.trans g hb';refine IF (fun h3=>?_) fun h3=>?_;replace h3:decide ((nextF s p ts cs).2.2.2=0)=false:=by simpa using h3
 rw [h3,Zeh] at he;refine RTN ?_;rw [hN,← he];obtain ⟨ta,tc,ca,cc,hA,_⟩:=hs'.sa;exact ⟨b8,ta,tc,ca,cc,rfl,hA,g⟩;replace h3:(nextF s p ts cs).2.2.2=0:=by simpa using h3
 have hlt:=Ztf h2 h3;rw [Jyg h3,Zfh] at he;refine KC [0,4] ?_;refine Yu (fun a ha=>?_);exact ⟨(_,_,_,f'),ha,⟨hs',by show s.length-(nextF s p ts cs).1≤f';omega,he,g⟩,by show s.length-(nextF s p ts cs).1<s.length-p;omega⟩;have hp:p=s.length:=by simp only [Zbh] at h2;omega
 have he:(p,ts,cs,(0:Int))=goF s s.length 0 [] []:=by
  rw [← he]
  cases f with
  | zero=>rfl
  | succ f'=>rw [goF,Jxg (by omega:¬ p<s.length)];rfl
 refine RTN ?_;rw [hN,← he];exact ⟨b8,ta,tc,ca,cc,rfl,hA,g⟩
def scanF(s:List UInt8):List Tok×Nat×Int:=bif !decide ((allF s).2.2.2=0) then ([],(allF s).1,(allF s).2.2.2) else ((allF s).2.1,0,0)
def Toks(base:Nat)(l:List Tok)(v:Ga)(w:Aa):Prop:=w.ownsRow base 94 3 v l.length (toksCells l)
theorem Xge(s:List UInt8)(w:Aa)(hL:Laid w)(hb3:10≤w.heap.size) :
 Ret PP 132 #[Str s] w fun v w'=>∃ l,v = .tuple #[l,.int .i64 (scanF s).2.1,.int .i64 (scanF s).2.2]∧Toks w.heap.size (scanF s).1 l w'∧G w w':=by
 have g:=G.refl w;refine WK 23 [0] Tryz.func132 ?_;refine AU ?_;refine CL (Vag s _ (hL.grow g) hb3) ?_;rintro v9 w9 ⟨b,ta,tc,ca,cc,rfl,hA,g9⟩;refine ⟨fun _=>g9,?_⟩;have g:=g.trans g9;refine IF (fun h1=>?_) fun h1=>?_;(try simp only [bsimp] at h1);refine Zk (Xg [3,3,3,0,3,3,3,3] [true,true,true,true,true,true,true,true] [0,1,3,7,0,0,47,127] mix KR ?_);have g:=gdr g;have gh:=G.drew w9;refine Zu J (Vx J (Xa Yo J (Xn Yf J (by first|exact (hA.grow gh).B.at_ J) (Zu J (Xf J (Xf J (Xf J (Ze (kq (We (Ztd (ts:=[2,3,4]) (vs:=[_,_,_]) J J J ?_)))))))))));refine ⟨.slice none 0 0,?_,?_,g⟩;rw [scanF,show (!decide ((allF s).2.2.2=0))=true from h1];rfl;rw [scanF,show (!decide ((allF s).2.2.2=0))=true from h1];exact Jk _ _ _ _;have gh:=G.refl w9;refine Yu (kq (Zk (Zn (Zu J (Vx J (Xa Qd J (Xn Us J (by first|exact (hA.grow gh).B.at_ J) (Xf J (Xf J (Xf J (Ze (kq (We (Ztd (ts:=[2,3,4]) (vs:=[_,_,_]) J J J ?_))))))))))))));refine ⟨.slice ta (allF s).2.1.length tc,?_,?_,g⟩;rw [scanF,show (!decide ((allF s).2.2.2=0))=false from h1];rfl;rw [scanF,show (!decide ((allF s).2.2.2=0))=false from h1];exact hA.ht
structure Ty where
  kind:Int
  name:List UInt8
inductive Nd where
  | mk (kind:Int) (text:List UInt8) (num pos:Int) (kids:List Nd) (ty:Ty) (ref up:Int)
namespace Nd
def kind:Nd→Int | .mk k _ _ _ _ _ _ _=>k
def text:Nd→List UInt8 | .mk _ x _ _ _ _ _ _=>x
def num:Nd→Int | .mk _ _ n _ _ _ _ _=>n
def pos:Nd→Int | .mk _ _ _ a _ _ _ _=>a
def kids:Nd→List Nd | .mk _ _ _ _ ks _ _ _=>ks
def ty:Nd→Ty | .mk _ _ _ _ _ y _ _=>y
def ref:Nd→Int | .mk _ _ _ _ _ _ r _=>r
def up:Nd→Int | .mk _ _ _ _ _ _ _ u=>u
end Nd
def ty0:Ty:=⟨0,[]⟩
def nd0:Nd:=.mk 0 [] 0 0 [] ty0 0 0
def tyCells(y:Ty):List Ga:=[.int .i64 y.kind,Str y.name]
def ndCells(t:Nd)(v:Ga):List Ga:=[.int .i64 t.kind,Str t.text,.int .i64 t.num,.int .i64 t.pos,v,.int .i64 t.ty.kind,Str t.ty.name,.int .i64 t.ref,.int .i64 t.up]
@[reducible] def tyV(y:Ty):Ga:=.agg (tyCells y).toArray
@[reducible] def ndV(t:Nd)(v:Ga):Ga:=.agg (ndCells t v).toArray
theorem Jn(t:Nd)(v:Ga):(ndCells t v).length=9:=rfl
mutual
theorem Nd.ind_n{C:Nd→Prop}(h:∀ t,(∀ k∈t.kids,C k)→C t):∀ t,C t
 | .mk k x n a ks y r u=>h _ (Nd.ind_l h ks)
theorem Nd.ind_l{C:Nd→Prop}(h:∀ t,(∀ k∈t.kids,C k)→C t):∀ (l:List Nd),∀ k∈l,C k
 | []=>fun _ hk=>by cases hk
 | t::ts=>Axa.2 ⟨Nd.ind_n h t,Nd.ind_l h ts⟩
end
theorem Nd.ind{C:Nd→Prop}(h:∀ t,(∀ k∈t.kids,C k)→C t)(t:Nd):C t:=Nd.ind_n h t
section
variable {α:Type}
mutual
def para(f:Nd→List α→α):Nd→α
 | .mk k x n a ks y r u=>f (.mk k x n a ks y r u) (paraL f ks)
def paraL(f:Nd→List α→α):List Nd→List α
 | []=>[]
 | t::ts=>para f t::paraL f ts
end
theorem Zuf(f:Nd→List α→α)(l:List Nd):paraL f l=l.map (para f):=by
 induction l with
 | nil=>rfl
 | cons t ts ih=>rw [paraL,ih];rfl
theorem Zca(f:Nd→List α→α)(t:Nd):para f t=f t (t.kids.map (para f)):=by
 cases t with
 | mk k x n a ks y r u=>rw [para,Zuf];rfl
end
mutual
def KRow(w:Aa)(D:Nat→Prop):List Nd→List Ga→Prop
 | [],xs=>xs=[]
 | t::ts,xs=>∃ v r,xs=ndCells t v++r∧KNd w D t v∧KRow w D ts r
def KNd(w:Aa)(D:Nat→Prop):Nd→Ga→Prop
 | .mk _ _ _ _ ks _ _ _,v=>∃ p c,v = .slice p ks.length c∧ks.length≤c∧(0<ks.length→∃ b o,p=some ⟨b,o,none⟩∧D b∧∃ xs,RowAt w b o xs∧KRow w D ks xs)
end
def Kd(w:Aa)(D:Nat→Prop)(ks:List Nd)(v:Ga):Prop :=
 ∃ p c,v = .slice p ks.length c∧ks.length≤c∧(0<ks.length→∃ b o,p=some ⟨b,o,none⟩∧D b∧∃ xs,RowAt w b o xs∧KRow w D ks xs)
theorem Yqc(w:Aa)(D:Nat→Prop)(t:Nd)(v:Ga):KNd w D t v=Kd w D t.kids v:=by
 cases t;rw [KNd];rfl
theorem Wkb{w:Aa}{D:Nat→Prop}:KRow w D [] []:=rfl
theorem Qe{w:Aa}{D:Nat→Prop}{t:Nd}{ts:List Nd}{v:Ga}{r:List Ga}(h:Kd w D t.kids v)(k:KRow w D ts r):KRow w D (t::ts) (ndCells t v++r) :=
 ⟨v,r,rfl,(Yqc ..).symm▸h,k⟩
theorem Wxa{w:Aa}{D:Nat→Prop}:∀ {ks:List Nd} {xs:List Ga},KRow w D ks xs→xs.length=ks.length*9
 | [],xs,h=>by rw [show xs=[] from h];rfl
 | t::ts,xs,h=>by
  obtain ⟨v,r,rfl,_,h⟩:=h;rw [Aka,Jn,Wxa h,Ala];omega
theorem Wya{w:Aa}{D:Nat→Prop}:∀ {ks ls:List Nd} {xs ys:List Ga},KRow w D ks xs→KRow w D ls ys→KRow w D (ks++ls) (xs++ys)
 | [],ls,xs,ys,h,k=>by rw [show xs=[] from h];exact k
 | t::ts,ls,xs,ys,h,k=>by
  obtain ⟨v,r,rfl,h1,h⟩:=h;exact ⟨v,r++ys,by rw [List.append_assoc],h1,Wya h k⟩
theorem Ve{w:Aa}{D:Nat→Prop}{t:Nd}{v:Ga}(h:Kd w D t.kids v):KRow w D [t] (ndCells t v):=by
 have:=Qe h (Wkb (w:=w) (D:=D));rwa [Bba] at this
theorem Vrc{w:Aa}{D:Nat→Prop}:∀ {ks:List Nd} {xs:List Ga} (_:KRow w D ks xs) {i:Nat} (hi:i<ks.length),∃ v,(xs.drop (i*9)).take 9=ndCells ks[i] v∧Kd w D ks[i].kids v
 | [],xs,h,i,hi=>by cases hi
 | t::ts,xs,h,i,hi=>by
  obtain ⟨v,r,rfl,h1,h⟩:=h
  cases i with
  | zero=>exact ⟨v,by simp [ndCells],Yqc w D t v▸h1⟩
  | succ i =>
   have hi':i<ts.length:=by simpa using hi
   obtain ⟨v',e,k⟩:=Vrc h hi';refine ⟨v',?_,k⟩
   have e9:(ndCells t v++r).drop ((i+1)*9)=r.drop (i*9):=by
    rw [show (i+1)*9=9+i*9 by omega,← List.drop_drop];rfl
   rw [e9];exact e
mutual
theorem Qf{w w':Aa}{D D':Nat→Prop}(hD:∀ b,D b→b<w.heap.size→D' b)(hf:∀ b,D b→b<w.heap.size→w'.heap[b]? = w.heap[b]?):∀ (ks:List Nd) (xs:List Ga),KRow w D ks xs→KRow w' D' ks xs
 | [],xs,h=>h
 | t::ts,xs,h=>by
  obtain ⟨v,r,rfl,h1,h⟩:=h;exact ⟨v,r,rfl,Jmc hD hf t v h1,Qf hD hf ts r h⟩
theorem Jmc{w w':Aa}{D D':Nat→Prop}(hD:∀ b,D b→b<w.heap.size→D' b)(hf:∀ b,D b→b<w.heap.size→w'.heap[b]? = w.heap[b]?):∀ (t:Nd) (v:Ga),KNd w D t v→KNd w' D' t v
 | .mk k x n a ks y r u,v,h=>by
  obtain ⟨p,c,rfl,hc,h⟩:=h;refine ⟨p,c,rfl,hc,fun h0=>?_⟩;obtain ⟨b,o,rfl,hb,xs,hR,hX⟩:=h h0;have hl:xs.length=ks.length*9:=Wxa hX;have h0':∃ u,xs[0]? = some u:=⟨xs[0]'O,by simp⟩;obtain ⟨u0,hu0⟩:=h0';have hlt:b<w.heap.size:=World.block_lt_of_cell? w _ (hR 0 u0 hu0);have hb':=hf b hb hlt;refine ⟨b,o,rfl,hD b hb hlt,xs,fun j u hj=>?_,Qf hD hf ks xs hX⟩;have:=hR j u hj;unfold World.cell? at this ⊢;simp only [hb'];exact this
end
theorem Wk{w w':Aa}{D D':Nat→Prop}{ks:List Nd}{v:Ga}(h:Kd w D ks v)(hD:∀ b,D b→b<w.heap.size→D' b)(hf:∀ b,D b→b<w.heap.size→w'.heap[b]? = w.heap[b]?):Kd w' D' ks v:=by
 have:=Jmc hD hf (.mk 0 [] 0 0 ks ty0 0 0) v ((Yqc w D _ v).symm▸h);rw [Yqc] at this;exact this
theorem Kd.mono{w:Aa}{D D':Nat→Prop}{ks:List Nd}{v:Ga}(h:Kd w D ks v)(hD:∀ b,D b→b<w.heap.size→D' b):Kd w D' ks v:=Wk h hD fun _ _ _=>rfl
theorem KRow.mono{w:Aa}{D D':Nat→Prop}{ks:List Nd}{xs:List Ga}(h:KRow w D ks xs)(hD:∀ b,D b→b<w.heap.size→D' b):KRow w D' ks xs:=Qf hD (fun _ _ _=>rfl) _ _ h
theorem Kd.grow{w w':Aa}{D:Nat→Prop}{ks:List Nd}{v:Ga}(h:Kd w D ks v)(g:G w w'):Kd w' D ks v:=Wk h (fun _ h _=>h) fun _ _ hb=>g.block hb
theorem KRow.grow{w w':Aa}{D:Nat→Prop}{ks:List Nd}{xs:List Ga}(h:KRow w D ks xs)(g:G w w'):KRow w' D ks xs:=Qf (fun _ h _=>h) (fun _ _ hb=>g.block hb) _ _ h
theorem Kd.keep{w w':Aa}{D:Nat→Prop}{ks:List Nd}{v:Ga}{row:Option Nat}(h:Kd w D ks v)(hg:w.grownBy w' row)(hne:∀ b,D b→b<w.heap.size→some b≠row):Kd w' D ks v:=Wk h (fun _ h _=>h) fun b hb hlt=>hg.block b hlt (hne b hb hlt)
theorem KRow.keep{w w':Aa}{D:Nat→Prop}{ks:List Nd}{xs:List Ga}{row:Option Nat}(h:KRow w D ks xs)(hg:w.grownBy w' row)(hne:∀ b,D b→b<w.heap.size→some b≠row):KRow w' D ks xs:=Qf (fun _ h _=>h) (fun b hb hlt=>hg.block b hlt (hne b hb hlt)) _ _ h
theorem Kd.lt{w:Aa}{D:Nat→Prop}{ks:List Nd}{v:Ga}(h:Kd w D ks v):Kd w (fun b=>D b∧b<w.heap.size) ks v:=Wk h (fun _ h hl=>⟨h,hl⟩) fun _ _ _=>rfl
theorem KRow.lt{w:Aa}{D:Nat→Prop}{ks:List Nd}{xs:List Ga}(h:KRow w D ks xs):KRow w (fun b=>D b∧b<w.heap.size) ks xs:=Qf (fun _ h hl=>⟨h,hl⟩) (fun _ _ _=>rfl) _ _ h
theorem Kd.old{w w':Aa}{D:Nat→Prop}{ks:List Nd}{v:Ga}(h:Kd w D ks v)(g:G w w'):Kd w' (fun b=>D b∧b<w.heap.size) ks v:=h.lt.grow g
theorem Vsc(w:Aa)(D:Nat→Prop):Kd w D [] (.slice none 0 0):=⟨none,0,rfl,Ada _,fun h=>absurd h (Nat.lt_irrefl 0)⟩
theorem Vbg{w:Aa}{base:Nat}{e:Ba}{v:Ga}{m:Nat}{xs:List Ga}{D:Nat→Prop}{ks:List Nd}(h:w.ownsRow base e 9 v m xs)(hm:m=ks.length)(k:KRow w D ks xs)(hD:∀ b,v.ownBlock=some b→D b):Kd w D ks v:=by
 subst hm;obtain ⟨a,c,rfl,hc⟩:=Zya h;refine ⟨a,c,rfl,hc,fun h0=>?_⟩;obtain ⟨b,c',hv,_,hR,_⟩:=Jja h h0;injection hv with hv _ _;subst hv;exact ⟨b,0,rfl,hD b rfl,xs,hR,k⟩
theorem Zsa{w:Aa}{D:Nat→Prop}{ks:List Nd}{b o c:Nat}{xs:List Ga}(hb:D b)(hR:RowAt w b o xs)(hX:KRow w D ks xs)(hc:ks.length≤c):Kd w D ks (.slice (some ⟨b,o,none⟩) ks.length c):=⟨_,c,rfl,hc,fun _=>⟨b,o,rfl,hb,xs,hR,hX⟩⟩
theorem Uyb{w:Aa}{D:Nat→Prop}{ks:List Nd}{b o:Nat}{xs:List Ga}(hR:RowAt w b o xs)(hX:KRow w D ks xs){i:Nat}(hi:i<ks.length):∃ p c,RowAt w b (o+i*9) (ndCells ks[i] (.slice p ks[i].kids.length c))∧Kd w D ks[i].kids (.slice p ks[i].kids.length c):=by
 obtain ⟨v,e,k⟩:=Vrc hX hi;have:=hR.part (i*9) 9;rw [e] at this;obtain ⟨p,c,rfl,k1⟩:=k;exact ⟨p,c,this,p,c,rfl,k1⟩
/-! counting -/
def count(t:Nd):Nat:=para (fun _ l=>1+l.sum) t
theorem Qm(t:Nd):count t=1+(t.kids.map count).sum:=Zca _ t
theorem Xxc(l:List Nat)(i:Nat):(l.take i).sum≤l.sum:=by
 conv=>rhs;rw [← List.take_append_drop i l,Bca]
 omega
theorem Zpa{t:Nd}{i:Nat}(h:i<t.kids.length):((t.kids.take i).map count).sum+count t.kids[i]+1≤count t:=by
 rw [Qm t];have:=Xxc (t.kids.map count) (i+1);rw [← List.map_take,Bda,Aca h] at this;simp only [Option.toList_some,List.map_append,List.map_cons,List.map_nil,Bca,List.sum_cons,List.sum_nil] at this;omega
theorem Uxa(t:Nd):1≤count t:=by rw [Qm];omega
theorem Uzb:∀ (l:List Nd),l.length≤(l.map count).sum
 | []=>Ada _
 | t::ts=>by have:=Uzb ts;have:=Uxa t;simp;omega
theorem Wu(t:Nd):t.kids.length+1≤count t:=by
 have:=Uzb t.kids;rw [Qm];omega
theorem Zrb{t k:Nd}(h:k∈t.kids):count k+1≤count t:=by
 obtain ⟨i,hi,rfl⟩:=Aqa h;have:=Zpa hi;omega
theorem Jbc{α β:Type}(f:α→β)(l:List α)(i:Nat)(h:i<l.length):(l.take (i+1)).map f=(l.take i).map f++[f l[i]]:=by
 rw [Bda,Aca h,List.map_append];rfl
def alB(c:UInt8):Bool:=letterB c.toNat || digitB c.toNat
def nameB(s:List UInt8):Bool:=!(((decide (s=[]) || decide ((32:Int)<s.length)) || !letterB (cAt s 0)) || inB kws s)&&(s.drop 1).all alB
/-! the same by the scanner -/
theorem Jqd{c:Int}(h:letterB c=true):decide (c=10)=false∧((decide (c=32) || decide (c=9)) || decide (c=13))=false∧decide (c=47)=false:=by
 simp only [letterB,Bea,Aja,Zah] at h;simp only [Bfa,Zbh];omega
theorem Jnc{q:Int→Bool}:∀ {l:List UInt8},(∀ c∈l,q c.toNat=true)→runN q l=l.length
 | [],_=>rfl
 | c::l,h=>by
  rw [runN,if_pos (h c (Ava ..)),Jnc fun x hx=>h x (Bja _ hx)];rfl
theorem Zvf{s:List UInt8}(h:nameB s=true):s.length≠0∧s.length≤32∧letterB (cAt s 0)=true∧inB kws s=false∧runN isAlnum s=s.length:=by
 unfold nameB at h;simp only [Aja,Bool.not_eq_true',Bfa,Zbh,Bool.not_eq_false'] at h;obtain ⟨⟨⟨⟨h1,h2⟩,h3⟩,h4⟩,h5⟩:=h;refine ⟨fun e=>h1 (List.length_eq_zero_iff.1 e),O,h3,h4,Jnc fun c hc=>?_⟩
 cases s with
 | nil=>cases hc
 | cons a l =>
  rcases List.mem_cons.1 hc with rfl|hc;have:letterB (c.toNat:Int)=true:=h3;rw [isAlnum,this];rfl;exact Aoa.1 h5 c hc
theorem Uue{l:List UInt8}(h:decide (cAt l 0=47)=false):preB [47,47] l=false:=by
 cases l with
 | nil=>rfl
 | cons a l =>
  have:¬ (a.toNat:Int)=47:=Zdh h;unfold preB;rw [Bool.and_eq_false_iff];right;rw [Zbh];intro e;rw [Ala,Bka] at e;injection e with e1 _;subst e1;exact this rfl
theorem Uve{s:List UInt8}(h:nameB s=true):scanF s=([⟨1,s,0⟩],0,0):=by
 obtain ⟨h0,h1,h2,h3,h4⟩:=Zvf h;obtain ⟨a1,a2,a3⟩:=Jqd h2
 have hN:nextF s 0 [] []=(s.length,[⟨1,s,0⟩],[],0):=by
  unfold nextF;rw [a1,a2,show s.drop 0=s from rfl,Uue a3,h2,h4,Jxg (by omega:¬ (32:Int)<(s.length:Nat)),Boa (Ada _),wordK,h3];simp
 have hG:goF s s.length 0 [] []=(s.length,[⟨1,s,0⟩],[],0):=by
  obtain ⟨m,hm⟩:∃ m,s.length=m+1:=⟨s.length-1,O⟩;rw [hm,goF,Jyg (by omega:0<s.length),hN];simp only [Zfh,decide_true]
  cases m with
  | zero=>rw [goF,hm]
  | succ m=>rw [goF,Jxg O,Zeh,hm]
 rw [scanF,allF,Jxg (by omega:¬ (20000:Int)<s.length),Zeh,hG];rfl
def NameTok(t:Tok):Prop:=t.kind=1→nameB t.text=true
theorem Jrd{s:List UInt8}{p:Nat}{ts:List Tok}(cs:List Tok)(hp:p<s.length)(h:∀ t∈ts,NameTok t):∀ t∈(nextF s p ts cs).2.1,NameTok t:=by
 have hn:∀ (l:List Tok) (t:Tok),(∀ t∈l,NameTok t)→NameTok t→∀ u∈l++[t],NameTok u:=by
  intro l t hl ht u hu;rcases List.mem_append.1 hu with hu|hu;exact hl u hu;rw [List.mem_singleton.1 hu];exact ht
 unfold nextF;cases h1:decide (cAt s p=10);cases h2:((decide (cAt s p=32) || decide (cAt s p=9)) || decide (cAt s p=13));cases h3:preB [47,47] (s.drop p);cases h4:letterB (cAt s p);cases h7:digitB (cAt s p);cases h8:Aaa (Uxb (s.drop p)) 0;exact hn _ _ h (fun e=>by simp at e);exact h;cases h8:badD s p (runN digitB (s.drop p));cases h9:decide (valN 0 ((s.drop p).take (runN digitB (s.drop p)))<9223372036854775808);exact h;exact hn _ _ h (fun e=>by simp at e);exact h;cases h5:decide ((32:Int)<runN isAlnum (s.drop p));refine hn _ _ h (fun e=>?_);simp only at e ⊢;have hq:isAlnum (cAt s p)=true:=by rw [isAlnum,h4];rfl
 have hpos:=Qva hp hq;have hfit:=Zac isAlnum hp;have hall:=Vqc isAlnum (s.drop p);generalize hX:(s.drop p).take (runN isAlnum (s.drop p))=x at e hall ⊢;have hl:x.length=runN isAlnum (s.drop p):=by rw [← hX,Baa,Awa];omega
 have hk:inB kws x=false:=by
  cases hk:inB kws x;rfl;rw [wordK,hk] at e;cases e
 have hc:cAt x 0=cAt s p:=by
  rw [← hX];unfold cAt;simp [Aga,List.getElem?_take,show 0<runN isAlnum (s.drop p) from hpos]
 have h5':=Zdh h5;unfold nameB;rw [Jxg (by omega:¬ (32:Int)<(x.length:Nat)),hc,h4,hk,Jxg (by intro e0;rw [e0] at hl;simp at hl;omega)];simp only [Aea,Ama,Afa,Aua];rw [Aoa];intro c hc;exact hall c (List.mem_of_mem_drop hc);exact h;exact h;exact h;show ∀ t∈nlTs p ts,NameTok t;intro t ht
 have:nlTs p ts=ts∨∃ q,nlTs p ts=ts++[⟨4,[59],q⟩]:=by
  unfold nlTs
  cases ts.getLast? with
  | none=>exact .inl rfl
  | some u=>simp only [];split <;> first|exact .inl rfl|exact .inr ⟨_,rfl⟩
 rcases this with e|⟨q,e⟩;rw [e] at ht;exact h t ht;rw [e] at ht;exact hn _ _ h (fun e=>by simp at e) t ht
theorem Vhd(s:List UInt8):∀ (f p:Nat) (ts cs:List Tok),(∀ t∈ts,NameTok t)→∀ t∈(goF s f p ts cs).2.1,NameTok t
 | 0,_,_,_,h=>h
 | f+1,p,ts,cs,h=>by
  rw [goF];cases hp:decide (p<s.length);exact h;have hn:=Jrd (ts:=ts) cs (Zch hp) h;cases decide ((nextF s p ts cs).2.2.2=0);exact hn;exact Vhd s f _ _ _ hn
theorem Jsd(s:List UInt8):∀ t∈(scanF s).1,NameTok t:=by
 rw [scanF,allF];cases decide ((20000:Int)<s.length);simp only [Zeh];have:=Vhd s s.length 0 [] [] (fun t ht=>by cases ht);cases (!decide ((goF s s.length 0 [] []).2.2.2=0));exact this;exact fun t ht=>by cases ht
 exact fun t ht=>by cases ht
def tok1(l:List Tok):Tok:=l.getD 0 ⟨0,[],0⟩
def Zwf(s:List UInt8):Bool:=((decide ((scanF s).2.2=0)&&decide (((scanF s).1.length:Int)=1))&&decide ((tok1 (scanF s).1).kind=1))&&decide ((tok1 (scanF s).1).text=s)
theorem Vid(s:List UInt8):Zwf s=nameB s:=by
 cases h:nameB s;rw [Zwf,Bool.eq_false_iff];intro hp;simp only [Aja,Zah] at hp;obtain ⟨⟨⟨_,h2⟩,h3⟩,h4⟩:=hp
 have hm:tok1 (scanF s).1∈(scanF s).1:=by
  cases hl:(scanF s).1 with
  | nil=>rw [hl] at h2;simp at h2
  | cons a l=>exact Ava ..
 have:=Jsd s _ hm h3;rw [h4,h] at this;cases this;rw [Zwf,Uve h];simp [tok1]
def pb(p:Option Addr):Nat:=match p with|some a=>a.block|none=>0
def po(p:Option Addr):Nat:=match p with|some a=>a.off|none=>0
def anyK:List Int→Int→Bool
 | [],_=>false
 | [a],k=>decide (k=a)
 | a::b::l,k=>decide (k=a) || anyK (b::l) k
def anyS:List (List UInt8)→List UInt8→Bool
 | [],_=>false
 | [a],k=>decide (k=a)
 | a::b::l,k=>decide (k=a) || anyS (b::l) k
theorem Qwa:∀ (l:List Int) (k:Int),anyK l k=true↔k∈l
 | [],k=>by simp [anyK]
 | [a],k=>by simp [anyK]
 | a::b::l,k=>by rw [anyK,Bea,Qwa (b::l) k,Zah,List.mem_cons (a:=k) (b:=a)]
theorem Zbc:∀ (l:List (List UInt8)) (k:List UInt8),anyS l k=true↔k∈l
 | [],k=>by simp [anyS]
 | [a],k=>by simp [anyS]
 | a::b::l,k=>by rw [anyS,Bea,Zbc (b::l) k,Zah,List.mem_cons (a:=k) (b:=a)]
theorem Zxf{w:Aa}{b o:Nat}{l:List Tok}(h:RowAt w b o (toksCells l))(hl:0<l.length):RowAt w b o (tokCells (tok1 l)):=by
 cases l with
 | nil=>cases hl
 | cons t l =>
  have:=h.part 0 3;exact this
theorem Xr{P:Fa}{n:Nat}{σ:List Ent}{c:Prop}{wb:Aa}{ty:Ba}{t e z by_:Nat}{x y:Ea}{p:Option Addr}{m q:Nat}{k:IntKind}{i:Int}(ht:tyElem P t=some (e,z,by_))(h:Ev n σ c x (.slice p m q))(h':Ev n σ c y (.int k i))(hi:c→0≤i∧i<m)(hp:c→p=some ⟨pb p,po p,none⟩) :
  Rd P n σ c wb (.indexAddr t x y) ty (.pointer (some ⟨pb p,po p+i.toNat*z,none⟩)):=.mk fun d pos after gd a ha hc w1 hg =>
 Jva (P:=P) (wb:=wb) ht (Ev.to h fun hc=>congrArg (fun p=>Ia p m q) (hp hc)) h' hi d pos after gd a ha hc w1 hg
theorem Yja{P:Fa}{Z:List Da→Act→Aa→Prop}{ops:List Oper}{cl:List Nat}{lv:List Bool}{W0:Aa}{n:Nat}{K:Act→Aa→Prop}{k:Nat}{rest:List Oper}{σ:List Ent}{w:Aa}{d:Nat}{ty:Ba}{pos:String}{after:Array Edge}{x y:Ea}{t e z by_:Nat}{p:Option Addr}{m q:Nat}{g:IntKind}{i:Int}(ht:tyElem P t=some (e,z,by_))(hx:opv σ x=some (True,.slice p m q))(hy:opv σ y=some (True,.int g i))(hi:0≤i∧i<m)(hp:p=some ⟨pb p,po p,none⟩)
  (h:SR P Z ops cl lv W0 n K (k+1) rest ((d,True,.pointer (some ⟨pb p,po p+i.toNat*z,none⟩)) :: σ) w) (hb:(Aaa (clOf cl k) 3&&Aia d n)=true:=by exact rfl):SR P Z ops cl lv W0 n K k (⟨some d,.indexAddr t x y,ty,pos,after,none⟩::rest) σ w:=Zz hb (fun _=>Xr ht (Jv hx) (Jv hy) (fun _=>hi) fun _=>hp) h
theorem Vtc{base:Nat}{l:List Tok}{v:Ga}{w:Aa}(h:Toks base l v w):∃ a c,v = .slice a l.length c∧(0<l.length→a=some ⟨pb a,po a,none⟩∧RowAt w (pb a) (po a) (tokCells (tok1 l))):=by
 obtain ⟨a,c,rfl,_⟩:=Zya h;refine ⟨a,c,rfl,fun h0=>?_⟩;obtain ⟨b,c',hv,_,hR,_⟩:=Jja h h0;injection hv with hv _ _;subst hv;exact ⟨rfl,Zxf hR h0⟩
theorem Vjd(s:List UInt8)(w:Aa)(hL:Laid w)(hb3:10≤w.heap.size):Ret PP 109 #[Str s] w fun v w'=>v = .bool (nameB s)∧G w w':=by
 have g:=G.refl w;refine WK 34 [0] Tryz.func109 ?_;refine AU ?_;refine CL (Xge s _ (hL.grow g) (by have:=g.size;omega)) ?_;rintro v8 w8 ⟨l,rfl,hT,g8⟩;obtain ⟨a,c,rfl,hr⟩:=Vtc hT;refine ⟨fun _=>g8,?_⟩;have g:=g.trans g8;refine AU ?_;refine Zv J J J (fun _=>Xr Ww (Yc J id) Xv (fun hc=>by have:=Zch (Aba.1 hc.2).2;omega) (fun hc=>(hr (by have:=Zch (Aba.1 hc.2).2;omega)).1)) ?_;refine AU ?_;refine Wb J J J (Zt Yf (Yc J id) (fun hc=>(hr (by have:=Zch (Aba.1 hc.2).2;omega)).2 0 _ J)) ?_;refine AU ?_;refine Zv J J J (fun _=>Xr Ww (Yc J id) Xv (fun hc=>by have:=Zch (Aba.1 (Aba.1 hc.2).1).2;omega) (fun hc=>(hr (by have:=Zch (Aba.1 (Aba.1 hc.2).1).2;omega)).1)) ?_;refine AU ?_;refine Wb J J J (Zt Xc (Yc J id) (fun hc=>(hr (by have:=Zch (Aba.1 (Aba.1 hc.2).1).2;omega)).2 1 _ J)) ?_;refine RTN ?_;refine ⟨Jzg ?_,g⟩;rw [← Vid];rfl
theorem Ty.ext'{a b:Ty}(h:a.kind=b.kind)(k:a.name=b.name):a=b:=by cases a;cases b;simp_all
def tyEqB(a b:Ty):Bool:=decide (a.kind=b.kind)&&(decide (a.name=b.name)&&true)
theorem Yrc(a b:Ty):tyEqB a b=true↔a=b:=by
 unfold tyEqB;simp only [Bool.and_true,Aja,Zah];exact ⟨fun h=>Ty.ext' h.1 h.2,fun h=>by rw [h];exact ⟨rfl,rfl⟩⟩
def tInt:Ty:=⟨1,[]⟩
def tBool:Ty:=⟨2,[]⟩
def tNil:Ty:=⟨3,[]⟩
def tyValidB(y:Ty):Bool:=bif decide (y.kind=4) then nameB y.name else (decide (0≤y.kind)&&decide (y.kind≤12))&&decide (y.name=[])
def refB(y:Ty):Bool:=bif anyK [4,5,6,7] y.kind then tyValidB y else false
def Vl(y:Ty):Bool:=(tyEqB y tInt || tyEqB y tBool) || refB y
def Vg(to fr:Ty):Bool:=Vl to&&(tyEqB fr to || (tyEqB fr tNil&&refB to))
def compB(a b:Ty):Bool:=bif tyEqB a tNil || tyEqB b tNil then refB a || refB b
 else bif anyK [1,2,4,6] a.kind then tyEqB a b&&tyValidB a else false
theorem Ysc(y:Ty)(w:Aa)(hL:Laid w)(hb3:10≤w.heap.size):Ret PP 135 #[tyV y] w fun v w'=>v = .bool (tyValidB y)∧G w w':=by
 have g:=G.refl w;refine WK 22 [0] Tryz.func135 ?_;refine BM fun _ _ _ _ g E=>?_;refine IF (fun h1=>?_) fun h1=>?_;(try simp only [bsimp] at h1);refine AU ?_;refine CP (Vjd _ _ (hL.grow g) (by have:=g.size;omega)) (fun w8 g8=>?_);have g:=g.trans g8;replace E:=E.grow g8;refine RTN ?_;refine ⟨Jzg ?_,g⟩;unfold tyValidB;rw [h1];rfl;refine RTN ?_;refine ⟨Jzg ?_,g⟩;unfold tyValidB;rw [h1];rfl
theorem Wpc(y:Ty)(w:Aa)(hL:Laid w)(hb3:10≤w.heap.size):Ret PP 110 #[tyV y] w fun v w'=>v = .bool (refB y)∧G w w':=by
 have g:=G.refl w;refine WK 12 [0] Tryz.func110 ?_;refine BM fun _ _ _ _ g E=>?_;refine AU ?_;refine' OR [1,2] (fun hb1=>?y1) (kq ?n1)
 case y1 =>
  refine AU ?_;refine' OR [1,2] (fun hb2=>?y2) knr
  case y2 =>
   refine AU ?_;refine' OR [1,2] (fun hb3=>?y3) knr
   case y3 =>
    refine AU ?_;refine SK [5,1,2] ?_;exact Ze knr
 case n1 =>
  refine IF (fun h4=>?_) fun h4=>?_;have hq:anyK [4,5,6,7] y.kind=true:=h4;refine AU ?_;refine CP (Ysc _ _ (hL.grow g) (by have:=g.size;omega)) (fun w11 g11=>?_);have g:=g.trans g11;replace E:=E.grow g11;refine RTN ?_;refine ⟨Jzg ?_,g⟩;unfold refB;rw [hq];rfl;have hq:anyK [4,5,6,7] y.kind=false:=h4;refine RTN ?_;refine ⟨Jzg ?_,g⟩;unfold refB;rw [hq];rfl
theorem Wfa(y:Ty)(w:Aa)(hL:Laid w)(hb3:10≤w.heap.size):Ret PP 86 #[tyV y] w fun v w'=>v = .bool (Vl y)∧G w w':=by
 have g:=G.refl w;refine WK 15 [0] Tryz.func86 ?_;refine Zk (Zn (BM fun _ _ _ _ g E=>?_));refine Xf J (Ze (kq (Zk (Zn (Va Zj J J E.g0.row (Vzb Yz Vj (pqc J pq0) J J (Zz J (fun _=>Jd Wh (Zc J) (Zc J) J) (Zu J (Wb J J J (Zo Zj (Zc J) J (fun _=>E.g0.row)) (Zv J J J (fun _=>Qt [_,_] Yz J Vj (Uq Xv (Up)) J) (Zv J J J (fun _=>Jd Wh (Yc J id) (Yc J id) J) (Zz J (fun _=>Xo (Zc J) (Yc J id)) (Zu J (Wb J J J (Zo Zj (Zc J) J (fun _=>E.g0.row)) (Zha J J J (fun _=>(Zy Qja Wz (Yn (Yc J id) (Xw)) J)) (fun hc=>Wpc _ _ (hL.grow g) (by have:=g.size;omega)) (fun w13 g13=>?_))))))))))))))));have g:=g.trans g13;replace E:=E.grow g13;refine RTN ?_;exact ⟨rfl,g⟩
theorem Jtd(a b:Ty)(w:Aa)(hL:Laid w)(hb3:10≤w.heap.size):Ret PP 136 #[tyV a,tyV b] w fun v w'=>v = .bool (Vg a b)∧G w w':=by
 have g:=G.refl w;refine WK 21 [0,1] Tryz.func136 ?_;refine BM fun _ _ _ _ g E=>?_;refine BN fun _ _ _ _ g E=>?_;refine Xf J (Ze (kq (Zk (Zn (Va Zj J J E.g1.row (Uv J (Zy Wab Wz (aqc J aq0) J) (Wfa _ _ (hL.grow g) (by have:=g.size;omega)) (fun w6 g6=>?_)))))));have g:=g.trans g6;replace E:=E.grow g6;refine Zu J (Wb J J J (Zo Zj (Zc J) J (fun _=>E.g0.row)) (Wb J J J (Zo Zj (Zc J) J (fun _=>E.g1.row)) (Zv J J J (fun _=>Jd Wh (Yc J id) (Yc J id) J) (Zv J J J (fun _=>Zw (Yc J id)) (Wb J J J (Zo Zj (Zc J) J (fun _=>E.g0.row)) (Zv J J J (fun _=>Qt [_,_] Yz J Vj (Uq Xv (Up)) J) (Zv J J J (fun _=>Jd Wh (Yc J id) (Yc J id) J) (Zv J J J (fun _=>Zw (Yc J id)) (Wb J J J (Zo Zj (Zc J) J (fun _=>E.g1.row)) (Zha J J J (fun _=>(Zy Qja Wz (Yn (Yc J id) (Xw)) J)) (fun hc=>Wpc _ _ (hL.grow g) (by have:=g.size;omega)) (fun w17 g17=>?_)))))))))));have g:=g.trans g17;replace E:=E.grow g17;refine RTN ?_;exact ⟨rfl,g⟩
theorem Zyf(a b:Ty)(w:Aa)(hL:Laid w)(hb3:10≤w.heap.size):Ret PP 160 #[tyV a,tyV b] w fun v w'=>v = .bool (compB a b)∧G w w':=by
 have g:=G.refl w;refine WK 35 [0,1] Tryz.func160 ?_;refine BM fun _ _ _ _ g E=>?_;refine BN fun _ _ _ _ g E=>?_;refine AN fun _ _ _ _ g E=>?_;refine AS fun _ _ _ g E=>?_;refine IF (fun h1=>?_) fun h1=>?_;have hq:(tyEqB a tNil || tyEqB b tNil)=true:=h1;refine AU ?_;refine CP (Wpc _ _ (hL.grow g) (by have:=g.size;omega)) (fun w16 g16=>?_);have g:=g.trans g16;replace E:=E.grow g16;refine AU ?_;refine CG (fun hc=>Wpc _ _ (hL.grow g) (by have:=g.size;omega)) (fun w19 g19=>?_);have g:=g.trans g19;replace E:=E.grow g19;refine RTN ?_;refine ⟨Jzg ?_,g⟩;unfold compB;rw [hq];rfl;have hq:(tyEqB a tNil || tyEqB b tNil)=false:=h1;refine AU ?_;refine' OR [2,3,4] (fun hb2=>?y2) (kq ?n2)
 case y2 =>
  refine AU ?_;refine' OR [2,3,4] (fun hb3=>?y3) knr
  case y3 =>
   refine AU ?_;refine' OR [2,3,4] (fun hb4=>?y4) knr
   case y4 =>
    refine AU ?_;refine SK [23,2,3,4] ?_;exact Ze knr
 case n2 =>
  refine IF (fun h5=>?_) fun h5=>?_;have hr:anyK [1,2,4,6] a.kind=true:=h5;refine AU ?_;refine CG (fun hc=>Ysc _ _ (hL.grow g) (by have:=g.size;omega)) (fun w33 g33=>?_);have g:=g.trans g33;replace E:=E.grow g33;refine RTN ?_;refine ⟨Jzg ?_,g⟩;unfold compB;rw [hq,hr];rfl;have hr:anyK [1,2,4,6] a.kind=false:=h5;refine RTN ?_;refine ⟨Jzg ?_,g⟩;unfold compB;rw [hq,hr];rfl
def tFunc:Ty:=⟨7,[]⟩
def typTexts:List (List UInt8):=[[],[105,110,116],[98,111,111,108],[110,105,108],[],[91,93,105,110,116],[99,104,97,110,32,105,110,116],[102,117,110,99,40,41],[109,117,116,101,120],[114,119,109,117,116,101,120],[103,114,111,117,112],[111,110,99,101],[97,116,111,109,105,99]]
def LaidT(w:Aa):Prop:=RowAt w 0 0 (typTexts.map Str)
theorem LaidT.grow{w w':Aa}(h:LaidT w)(g:G w w'):LaidT w':=RowAt.grow h g
theorem Zzf{k:Int}(h0:0≤k)(h1:k≤12):(typTexts.map Str)[k.toNat]? = some (Str (typTexts.getD k.toNat [])):=by
 have hl:typTexts.length=13:=rfl;have h:k.toNat<typTexts.length:=by omega
 rw [List.getElem?_map,Aca h,Aga,Aca h];rfl
section
variable {α:Type} {f:α→List Ga} {z:Nat}
theorem Wlb(hf:∀ a,(f a).length=z):∀ (l:List α),(l.flatMap f).length=l.length*z
 | []=>by simp
 | a::l=>by rw [Ana,Aka,hf,Wlb hf l,Ala,Nat.succ_mul,Bga]
theorem Xhe(hf:∀ a,(f a).length=z):∀ (l:List α) (i:Nat) (h:i<l.length),((l.flatMap f).drop (i*z)).take z=f l[i]
 | [],_,h=>by cases h
 | a::l,0,_=>by
  rw [Ana,Nat.zero_mul,List.drop_zero,List.take_append_of_le_length (by rw [hf];exact Ada _),Boa (by rw [hf];exact Ada _)];rfl
 | a::l,i+1,h=>by
  have e:(((a::l).flatMap f)).drop ((i+1)*z)=(l.flatMap f).drop (i*z):=by
   rw [Ana,Nat.succ_mul,Bga,← List.drop_drop];congr 1;rw [← hf a,List.drop_left]
  rw [e];exact Xhe hf l i (by simpa using h)
def RowF(f:α→List Ga)(w:Aa)(l:List α)(v:Ga):Prop :=
 ∃ p c,v = .slice p l.length c∧l.length≤c∧(0<l.length→∃ b o,p=some ⟨b,o,none⟩∧RowAt w b o (l.flatMap f))
theorem RowF.grow{w w':Aa}{l:List α}{v:Ga}(h:RowF f w l v)(g:G w w'):RowF f w' l v:=by
 obtain ⟨p,c,rfl,hc,h⟩:=h;refine ⟨p,c,rfl,hc,fun h0=>?_⟩;obtain ⟨b,o,rfl,hR⟩:=h h0;exact ⟨b,o,rfl,hR.grow g⟩
theorem Vuc(w:Aa):RowF f w [] (.slice none 0 0):=⟨none,0,rfl,Ada _,fun h=>absurd h (Nat.lt_irrefl 0)⟩
theorem Vkd{w:Aa}{base:Nat}{e:Ba}{v:Ga}{m:Nat}{l:List α}(h:w.ownsRow base e z v m (l.flatMap f))(hm:m=l.length):RowF f w l v:=by
 subst hm;obtain ⟨a,c,rfl,hc⟩:=Zya h;refine ⟨a,c,rfl,hc,fun h0=>?_⟩;obtain ⟨b,c',hv,_,hR,_⟩:=Jja h h0;injection hv with hv _ _;subst hv;exact ⟨b,0,rfl,hR⟩
theorem Zcc(hf:∀ a,(f a).length=z){w:Aa}{b o:Nat}{l:List α}(h:RowAt w b o (l.flatMap f)){i:Nat}(hi:i<l.length):RowAt w b (o+i*z) (f l[i]):=by
 have:=h.part (i*z) z;rwa [Xhe hf l i hi] at this
end
/-! loops that carry facts on the world -/
def BlkE(b:Nat)(e:Ba)(l:List Ga)(w:Aa):Prop:=Blk w b e l
def andE(p q:Aa→Prop)(w:Aa):Prop:=p w∧q w
def nilE(w:Aa):Prop:=True
theorem blkE{w:Aa}{b:Nat}{e:Ba}{l:List Ga}(h:Blk w b e l):BlkE b e l w:=h
theorem Zx{p q:Aa→Prop}{w:Aa}(h:p w)(k:q w):andE p q w:=⟨h,k⟩
theorem Wa(w:Aa):nilE w:=trivial
section
variable {P:Fa} {B:List Da→Aa→Prop} {n:Nat} {N T:Act→Aa→Prop} {X:List (Nat×(Act→Aa→Prop))} {σ:List Ent} {w:Aa}
theorem Qa{c:Code}{α:Type}(I:α→Aa→Prop)(E:Aa→Prop)(σc:List Ent)(σf:α→List Ent)(μ:α→Nat)(x0:α)(h0:I x0 w)(hE:E w)(hs:Sub (σf x0 ++ σc) σ)
 (round:∀ x w,I x w→E w→SZ P B n c (fun a' w'=>∃ y,Kn n (σf y ++ σc) a'∧I y w'∧E w'∧μ y < μ x) X T (σf x ++ σc) w):SZ P B n (.loop c) N X T σ w:=by
 refine Vlb (fun x w=>I x w∧E w) (fun x=>σf x ++ σc) μ x0 ⟨h0,hE⟩ hs fun x w ⟨h1,h2⟩=>?_;refine .mk fun a ha=>Code.wp_mono (fun e a w q=>?_) (round x w h1 h2 a ha)
 cases e with
 | normal=>obtain ⟨y,q1,q2,q3,q4⟩:=q;exact ⟨y,q1,⟨q2,q3⟩,q4⟩
 | _=>exact q
end
theorem Vob{w:Aa}{D:Nat→Prop}:∀ {ls:List Nd} {news:List Ga},KRow w D ls news→onesB news=true
 | [],news,h=>by rw [show news=[] from h];rfl
 | t::ls,news,h=>by
  obtain ⟨v,r,rfl,hkn,hr⟩:=h;rw [Yqc] at hkn;obtain ⟨p,c,rfl,_⟩:=hkn;have:=Vob hr;unfold onesB at this ⊢;rw [List.all_append,this,Bool.and_true];rfl
/-! own rows -/
theorem Yvb{w:Aa}{base b:Nat}{e:Ba}{z m:Nat}{l:List Ga}(h:Blk w b e l)(hb:base≤b)(hl:l.length=m*z)(hm:m≤1000000):w.ownsRow base e z (.slice (some ⟨b,0,none⟩) m m) m l :=
 ⟨hl,.inr ⟨b,m,l.toArray,rfl,hb,h,Ada _,by simp only [maxLen];omega,by simpa using hl,by simp [← hl]⟩⟩
def Dx(base:Nat)(X:List Nat)(b:Nat):Prop:=base≤b∧b∉X
def OwnK(e:Ba)(D:Nat→Prop)(base:Nat)(w:Aa)(ks:List Nd)(s:Ga):Prop :=
 ∃ xs,w.ownsRow base e 9 s ks.length xs∧KRow w (fun b=>D b∧some b≠s.ownBlock) ks xs∧∀ b,s.ownBlock=some b→D b
section
variable {e:Ba} {D:Nat→Prop} {base:Nat} {w w':Aa} {ks:List Nd} {s:Ga}
theorem Yaf(e:Ba)(D:Nat→Prop)(base:Nat)(w:Aa):OwnK e D base w [] (.slice none 0 0):=⟨[],Jk _ _ _ _,Wkb,fun b h=>by cases h⟩
theorem OwnK.slice(h:OwnK e D base w ks s):∃ a c,s = .slice a ks.length c:=by
 obtain ⟨xs,h1,_⟩:=h;obtain ⟨a,c,h2,_⟩:=Zya h1;exact ⟨a,c,h2⟩
theorem OwnK.ge(h:OwnK e D base w ks s):∀ k,s.ownBlock=some k→base≤k:=by
 obtain ⟨xs,h1,_⟩:=h;exact fun k hk=>(h1.lt k hk).1
theorem OwnK.lt(h:OwnK e D base w ks s):∀ k,s.ownBlock=some k→k<w.heap.size:=by
 obtain ⟨xs,h1,_⟩:=h;exact fun k hk=>(h1.lt k hk).2
theorem OwnK.ne(h:OwnK e D base w ks s){b:Nat}(hb:¬ D b):some b≠s.ownBlock:=by
 obtain ⟨xs,_,_,h3⟩:=h;exact fun he=>hb (h3 b he.symm)
theorem OwnK.grow(h:OwnK e D base w ks s)(g:G w w'):OwnK e D base w' ks s:=by
 obtain ⟨xs,h1,h2,h3⟩:=h;exact ⟨xs,Xl h1 g,h2.grow g,h3⟩
theorem OwnK.keep(h:OwnK e D base w ks s){b:Nat}(hg:w.grownBy w' (some b))(hb:¬ D b):OwnK e D base w' ks s:=by
 obtain ⟨xs,h1,h2,h3⟩:=h;refine ⟨xs,Yi h1 hg (.inr fun he=>hb (h3 b he)),h2.keep hg fun k hk _ he=>?_,h3⟩;injection he with he;exact hb (he▸hk.1)
theorem OwnK.kd(h:OwnK e D base w ks s){D':Nat→Prop}(hD:∀ b,D b→D' b):Kd w D' ks s:=by
 obtain ⟨xs,h1,h2,h3⟩:=h;exact Vbg h1 rfl (h2.mono fun b hb _=>hD b hb.1) fun b hb=>hD b (h3 b hb)
theorem Vld{b:Nat}{t:Nd}{v:Ga}(h:Blk w b e (ndCells t v))(hb:base≤b)(hk:Kd w (fun k=>D k∧k≠b) t.kids v)(hD:D b):OwnK e D base w [t] (.slice (some ⟨b,0,none⟩) 1 1):=by
 refine ⟨_,Yvb h hb J Od,Ve (hk.mono fun k hk _=>⟨hk.1,fun he=>?_⟩),fun k hk=>?_⟩;injection he with he;exact hk.2 he;injection hk with hk;exact hk▸hD
theorem OwnK.append{ls:List Nd}{news:List Ga}{a':Option Addr}{c':Nat}{xs:List Ga}(h:OwnK e D base w ks s)(hx:w.ownsRow base e 9 s ks.length xs)(hX:KRow w (fun b=>D b∧some b≠s.ownBlock) ks xs)
 (hn:KRow w (fun b=>D b∧some b≠s.ownBlock) ls news) (hD:D w.heap.size) (ho:w'.ownsRow base e 9 (.slice a' (ks.length+ls.length) c') (ks.length+ls.length) (xs++news)) (hg:w.grownBy w' s.ownBlock)
 (hat:(Ia a' (ks.length+ls.length) c').ownBlock=s.ownBlock∨(Ia a' (ks.length+ls.length) c').ownBlock=some w.heap.size):OwnK e D base w' (ks++ls) (.slice a' (ks++ls).length c'):=by
 have hlen:(ks++ls).length=ks.length+ls.length:=by simp
 refine ⟨xs++news,by rw [hlen];exact ho,?_,?_⟩;have h1:=Wya hX hn;rw [hlen];refine Qf (fun b hb hlt=>⟨hb.1,?_⟩) (fun b hb hlt=>hg.block b hlt hb.2) _ _ h1;rcases hat with he|he <;> rw [he]
 exact hb.2;intro e;injection e with e;omega;rw [hlen];intro b hb;rcases hat with he|he <;> rw [he] at hb
 obtain ⟨_,_,_,h3⟩:=h;exact h3 b hb;injection hb with hb;exact hb▸hD
end
section
variable {P:Fa} {Z:List Da→Act→Aa→Prop} {ops:List Oper} {cl:List Nat} {lv:List Bool} {W0:Aa} {n:Nat} {K:Act→Aa→Prop} {k:Nat} {rest:List Oper} {σ:List Ent} {w:Aa} {d:Nat} {ty:Ba} {pos:String} {after:Array Edge}
theorem Vvc{t e base q q':Nat}{x y:Ea}{s zv:Ga}{news:List Ga}{b' o':Nat}{D:Nat→Prop}{ks ls:List Nd}(hb:(Aaa (clOf cl k) 2&&Aia d n)=true)(ht:tyElem P t=some (e,9,104))(hzv:zeroOf P e=some zv)
 (hzs:zv.cells.size=9) (hx:Ev n σ True x s) (hO:OwnK e D base w ks s) (hy:Ev n σ True y (.slice (some ⟨b',o',none⟩) q q')) (hq:ls.length=q) (hn:RowAt w b' o' news) (hK:KRow w (fun b=>D b∧some b≠s.ownBlock) ls news)
 (hlen:ks.length+ls.length≤10000000) (hbase:base≤w.heap.size) (hD:D w.heap.size)
 (h:∀ a' c' w',OwnK e D base w' (ks++ls) (.slice a' (ks++ls).length c')→w.grownBy w' s.ownBlock→SR P Z ops cl lv W0 n K (k+1) rest ((d,True,.slice a' (ks++ls).length c') :: σ) w') :
 SR P Z ops cl lv W0 n K k (⟨some d,.call { callee:=.builtin .append,args:=#[x,y],argTypes:=#[t,t] },ty,pos,after,none⟩::rest) σ w:=by
 obtain ⟨xs,h1,h2,h3⟩:=id hO;subst hq;have ones:=Vob hK;refine Ur hb ht hzv hzs Od hx h1 hy (Wxa hK) hn ones (by simp only [maxLen];omega) O hbase fun a' c' w' ho hg hat=>?_;have:=h a' c' w' (hO.append h1 h2 hK hD ho hg hat) hg;rwa [Aka] at this
end
theorem Jcc{l:List Nd}{i:Nat}(f:Nd→Nat)(h:i<l.length):((l.take (i+1)).map f).sum=((l.take i).map f).sum+f l[i]:=by
 rw [Jbc f l i h,Bca];simp
theorem Uwe:∀ (t:Nd) (v:Ga) (D:Nat→Prop) (w:Aa),Kd w D t.kids v→count t≤4611686018427387904→Ret PP 21 #[ndV t v] w fun r w'=>r = .int .i64 (count t:Nat)∧G w w':=by
 refine Nd.ind fun t ih v D w hk hc=>?_;obtain ⟨p,c,rfl,hcap,hks⟩:=hk;have g:=G.refl w;have hlen:=Wu t;refine WK 21 [0] Tryz.func21 ?_;refine BM fun _ w1 _ _ g E=>?_;refine AU ?_;refine Qk (fun (i:Nat) u1=>(i≤t.kids.length)∧G w1 u1) [(1,True,_),(2,True,_)] (fun (i:Nat)=>[(3,True,.int .i64 ((1+((t.kids.take i).map count).sum:Nat):Int)),(4,True,.int .i64 i)]) (fun (i:Nat)=>t.kids.length-i) (0) ⟨by simp,G.refl _⟩ (Zb J (Zb J (Zb J (Zb J (Zq _))))) ?_;rintro i u1 ⟨hI1,gl1⟩;have g:=g.trans gl1;replace E:=E.grow gl1;refine Zk (Zk (Zn (Zu J (Xa Zg J (Xn Zi J (E.g0.at_ J) (Xva Zd J (Ykb J J (Ze (kq (Um J (fun h1=>?_) (fun h1=>?_)))))))))));replace h1:i<t.kids.length:=by simp only [Zah] at h1;omega
 obtain ⟨b,o,rfl,hD,xs,hR,hX⟩:=hks O;obtain ⟨p',c',hcell,hkid⟩:=Uyb hR hX h1;have hck:=Zpa h1;refine Yu (kq (Zk (Yw (Zn (Zu J (Xa Zg J (Xn Zi J (E.g0.at_ J) (Zu J (Jhb Zd J J O (Va Zf J J (hcell.grow g) (Uv J (Zy Jjb Wz (aqc J aq0) J) (ih _ (Apa h1) _ _ _ (hkid.grow g) O) (fun w18 g18=>?_))))))))))));have gl1:=gl1.trans (g18);replace E:=E.grow g18;refine AU ?_;refine SK [3,4,1,2] ?_;refine Ze (fun a ha=>?_);have e:((1+((t.kids.take i).map count).sum:Nat):Int)+(count t.kids[i]:Nat)=((1+((t.kids.take (i+1)).map count).sum:Nat):Int):=by rw [Jcc count h1];omega
 rw [e] at ha;exact ⟨i+1,ha,⟨h1,gl1⟩,O⟩;replace h1:i=t.kids.length:=by simp only [Zbh] at h1;omega
 refine RTN ?_;refine ⟨?_,g⟩;rw [h1,Aya,← Qm]
theorem Ytc{α:Type}{l:List α}{i:Nat}(h:i<l.length):l.take (i+1)=l.take i++[l[i]]:=by
 rw [Bda,Aca h];rfl
def RetNd(t:Nd)(base:Nat)(r:Ga)(w:Aa):Prop:=∃ p c,r=ndV t (.slice p t.kids.length c)∧Kd w (fun b=>base≤b) t.kids (.slice p t.kids.length c)
def listN(t:Nd):List Nd:=para (fun t l=>t::l.flatten) t
theorem Zsb(t:Nd):listN t=t::t.kids.flatMap listN:=by rw [listN,Zca,List.flatMap_def];rfl
theorem Ywb:∀ t,(listN t).length=count t:=by
 refine Nd.ind fun t ih=>?_;rw [Zsb,Qm,Ala,Bpa,Bga];congr 2;exact Bqa ih
theorem Zdc{l:List Nd}{i:Nat}(h:i<l.length):(l.take (i+1)).flatMap listN=(l.take i).flatMap listN++listN l[i]:=by rw [Ytc h,Bra];simp only [Ana,List.flatMap_nil,Bba]
theorem Yuc(l:List Nd)(i:Nat):((l.take i).flatMap listN).length=((l.take i).map count).sum:=by
 rw [Bpa];congr 1;exact Bqa fun k _=>Ywb k
theorem Vmd:∀ (t:Nd) (v:Ga) (D:Nat→Prop) (w:Aa),Kd w D t.kids v→count t≤1000000→Ret PP 18 #[ndV t v] w fun r w'=>Kd w' (fun b=>D b∨w.heap.size≤b) (listN t) r∧G w w':=by
 refine Nd.ind fun t ih v D w hk hc=>?_;obtain ⟨p,c,rfl,hcap,hks⟩:=hk;have hlen:=Wu t;have hk0:Kd w (fun b=>D b∧b<w.heap.size) t.kids (.slice p t.kids.length c):=Kd.lt ⟨p,c,rfl,hcap,hks⟩;have g:=G.refl w;refine Ul (m:=23) Tryz.func18 J J [(0,True,_)] (Zb J (Zq _)) ?_;refine Zk (Zn (Zqa J (Zc J) J ?_));intro b1 w1 N1;have l1:=N1.ge g;have g:=g.trans N1.g;have E:=(Qs _).new N1;refine Xf J (Ze (kq (Zk (Zn (Va Zf J J E.g0.row (Ya _ J Zd Zp (pqc J pq0) J J ?_))))));intro b6 w6 N6;have l6:=N6.ge g;have g:=g.trans N6.g;replace E:=E.new N6;have x6_1:=E.ne 0 1 rfl rfl rfl;have hO:OwnK 26 (fun b=>(D b∧b<w.heap.size)∨Dx w.heap.size [b1] b) w.heap.size w6 [t] (.slice (some ⟨b6,0,none⟩) 1 1):=Vld E.g0 l6 ((hk0.grow g).mono fun k hk _=>⟨.inl hk,O⟩) (.inr ⟨l6,by simp;omega⟩);refine Xf J (Ze (kq (Zk (Zk (Zn (Xf J (Ze (kq (Yw (?_))))))))));replace E:=E.sel [false,true];have hnd1:=E.1;refine Qa (fun (x:Nat×Option Addr×Nat) u1=>match x with|⟨i,a,ca⟩=>(i≤t.kids.length∧OwnK 26 (fun b=>(D b∧b<w.heap.size)∨Dx w.heap.size [b1] b) w.heap.size u1 (t::(t.kids.take i).flatMap listN) (.slice a (t::(t.kids.take i).flatMap listN).length ca))∧G w u1) _ [(1,True,_),(2,True,_)] (fun (x:Nat×Option Addr×Nat)=>match x with|⟨i,a,ca⟩=>[(3,True,.slice a (t::(t.kids.take i).flatMap listN).length ca),(4,True,.int .i64 i)]) (fun (x:Nat×Option Addr×Nat)=>match x with|⟨i,a,ca⟩=>t.kids.length-i) ((0,some ⟨b6,0,none⟩,1)) ⟨⟨Aha _,hO⟩,g⟩ (Zx (blkE E.g0) (Wa _)) (Zb J (Zb J (Zb J (Zb J (Zq _))))) ?_;clear E;rintro ⟨i,a,ca⟩ u1 ⟨hI1,gl1⟩ ⟨B1,_⟩;replace B1:Blk _ _ _ _:=B1;have g:=gl1;obtain ⟨hi,hO⟩:=hI1
 have E:=Vwa (L:=[(b1,_,_)]) hnd1 ⟨B1,trivial⟩ rfl;refine Zk (Zk (Zn (Zu J (Xa Zg J (Xn Zi J (E.g0.at_ J) (Xva Zd J (Ykb J J (Ze (kq (Um J (fun h1=>?_) (fun h1=>?_)))))))))));replace h1:i<t.kids.length:=by simp only [Zah] at h1;omega
 obtain ⟨b,o,rfl,hD,xs,hR,hX⟩:=hks O;obtain ⟨p',c',hcell,hkid⟩:=Uyb hR hX h1;have hck:=Zpa h1;have hcl:=Yuc t.kids i;have hu:=g.size;have hB1lt:=E.g0.lt;have hOlt:=hO.lt;refine Yu (kq (Zk (Yw (Zn (Zu J (Xa Zg J (Xn Zi J (E.g0.at_ J) (Zu J (Jhb Zd J J O (Va Zf J J (hcell.grow g) (Xe J (Zy Xyb Wz (aqc J aq0) J) (ih _ (Apa h1) _ (fun b=>D b∧b<w.heap.size) _ (hkid.old g) O) ?_)))))))))));rintro v20 w20 ⟨⟨p2,c2,rfl,hc2,hr2⟩,g20⟩;refine ⟨fun _=>g20,?_⟩;have g:=g.trans g20;have hln:=Ywb t.kids[i];have hpos:=Uxa t.kids[i];obtain ⟨b2,o2,rfl,hD2,ys,hR2,hX2⟩:=hr2 O;replace E:=E.grow g20;have hO:=hO.grow (g20);have hOo:=hO;refine Vvc J Zd Zp J (Zc J) hO (Zc J) J hR2 (hX2.mono fun k hk _=>⟨hk.elim .inl fun h=>.inr ⟨by have h:u1.heap.size≤k:=h;omega,by have h:u1.heap.size≤k:=h;simp;omega⟩,fun he=>by have:=hOlt k he.symm;have hge:=hO.ge k he.symm;rcases hk with ⟨_,h⟩|h <;> omega⟩) (by rw [Ala];omega) (by have:=g.size;omega) (.inr ⟨by have:=g.size;omega,by have:=E.g0.lt;simp;omega⟩) ?_
 intro a21 c21 w21 hO hg21;replace E:=E.keep hg21 (Axa.2 ⟨(hOo.ne (by rintro (h|h);exact absurd h.2 O;simp [Dx] at h)),Bsa _⟩);have g:=Yaa g hg21 (fun k hk=>hOo.ge k hk);refine Xf J (Ze (kq (Zn (Zu J (Zeb J J O (Xf J (Vh [(3,_,_),(4,_,_),(1,_,_),(2,_,_)] (Zb J (Zb J (Zb J (Zb J (Zq _))))) (Ze (fun a ha=>?_)))))))));rw [show t::(t.kids.take i).flatMap listN++listN t.kids[i]=t::(t.kids.take (i+1)).flatMap listN by rw [Zdc h1];rfl] at ha hO;exact ⟨(i+1,a21,c21),ha,⟨⟨h1,hO⟩,g⟩,(Zx (blkE E.g0) (Wa _)),by show t.kids.length-(i+1)<t.kids.length-i;omega⟩;replace h1:i=t.kids.length:=by simp only [Zbh] at h1;omega
 subst h1;rw [Aya,← Zsb] at hO;refine Xka J (kq (Zk (Zn (Zu J (Xf J (Ze (kq (We (Vz J J ?_)))))))));refine ⟨?_,g⟩;rw [Aya,← Zsb];exact hO.kd fun b hb=>hb.elim (fun h=>.inl h.1) (fun h=>.inr h.1)
def typeNames:List (List UInt8):=[[105,110,116],[98,111,111,108],[91,93,105,110,116],[99,104,97,110],[102,117,110,99],[109,117,116,101,120],[114,119,109,117,116,101,120],[103,114,111,117,112],[111,110,99,101],[97,116,111,109,105,99]]
def Vt(s:List UInt8):Bool:=anyS typeNames s
def Jla(t:Nd):Bool:=decide ((t.kids.length:Int)=0)
def Xaa(t:Nd):Bool:=bif decide (t.kind=8) then nameB t.text&&Jla t else bif decide (t.kind=7) then Vt t.text&&Jla t else false
def Vra:List (List UInt8):=[[124,124],[38,38],[61,61],[33,61],[60],[60,61],[62],[62,61],[43],[45],[42],[47],[37]]
def typTab:List (List UInt8×Int):=[([105,110,116],1),([98,111,111,108],2),([91,93,105,110,116],5),([99,104,97,110],6),([102,117,110,99],7),([109,117,116,101,120],8),([114,119,109,117,116,101,120],9),([103,114,111,117,112],10),([111,110,99,101],11),([97,116,111,109,105,99],12)]
def typKind(s:List UInt8):Int:=(typTab.lookup s).getD 0
def ofF(t:Nd):Ty×Bool :=
 bif !Jla t then (ty0,false)
 else bif decide (t.kind=9) then (ty0,decide (t.text=[]))
 else bif decide (t.kind=8) then (bif nameB t.text then (⟨4,t.text⟩,true) else (ty0,false))
 else bif decide (t.kind=7) then (bif Vt t.text then (⟨typKind t.text,[]⟩,true) else (ty0,false))
 else (ty0,false)
theorem Uxe:((List.range 13).all fun i=>anyS [[],[110,105,108],[99,104,97,110,32,105,110,116],[102,117,110,99,40,41]] (typTexts.getD i []) || (Vt (typTexts.getD i [])&&decide (typKind (typTexts.getD i [])=(i:Int))))=true:=KR
theorem Yua{i:Nat}(hi:i<13){s:List UInt8}(hs:anyS [[],[110,105,108],[99,104,97,110,32,105,110,116],[102,117,110,99,40,41]] s=false)(h:typTexts.getD i []=s):Vt s=true∧typKind s=i:=by
 have:=Aoa.1 Uxe i (Aza.2 hi);rw [h,hs] at this;simpa using this
theorem Uye:(typeNames.all fun s=>anyS [[99,104,97,110],[102,117,110,99]] s || (List.range 13).any fun i=>decide (typTexts.getD i []=s))=true:=KR
theorem Yva{s:List UInt8}(h1:decide (s=[99,104,97,110])=false)(h2:decide (s=[102,117,110,99])=false)(h:∀ i,i<13→typTexts.getD i []≠s):Vt s=false:=by
 cases hn:Vt s;rfl;have:=Aoa.1 Uye s ((Zbc _ _).1 hn);simp only [anyS,h1,h2,Ama,Bool.false_or,List.any_eq_true,Zah,Aza] at this;obtain ⟨i,hi,he⟩:=this;exact absurd he (h i hi)
theorem Wka{s:List UInt8}(h:anyS [[],[110,105,108],[99,104,97,110,32,105,110,116],[102,117,110,99,40,41]] s=true):Vt s=false:=by
 have:=(Zbc _ _).1 h;simp only [List.mem_cons,List.not_mem_nil,or_false] at this;rcases this with rfl|rfl|rfl|rfl <;> rfl
theorem Ybf(t:Nd)(p:Option Addr)(c:Nat)(w:Aa)(hL:Laid w)(hb3:10≤w.heap.size)(hTx:LaidT w)(hlen:t.kids.length≤1000000):Ret PP 85 #[ndV t (.slice p t.kids.length c)] w fun v w'=>v = .tuple #[tyV (ofF t).1,.bool (ofF t).2]∧G w w':=by
 have g:=G.refl w;refine WK 56 [0] Tryz.func85 ?_;refine BM fun _ w1 _ _ g E=>?_;refine AN fun b2 w2 _ _ g E=>?_;refine IF (fun h1=>?_) fun h1=>?_
 have hq:Jla t=false:=by
  have:0<t.kids.length:=by simp only [Zah] at h1;omega
  unfold Jla;rw [Zbh];omega
 refine AS fun _ _ _ g E=>?_;refine RTN ?_;refine ⟨?_,g⟩;have h0:Str [] = .string ⟨#[]⟩:=rfl;unfold ofF;simp only [hq,Aea,Afa,h1,Zfh,Zeh]
 first
 | rfl
 | (rw [Zch h6];rfl)
 | (rw [Zch h7];rfl)
 | (rw [Wka h11];rfl)
 | (obtain ⟨e1,e2⟩:=Yua h12 h11 (Zch h13);rw [e1,e2];rfl)
 | (rw [Yva h6 h7 (fun j hj=>hI1.2 j O)];rfl)
 have hq:Jla t=true:=by
  unfold Jla;rw [Zah];simp only [Zbh] at h1;omega
 refine IF (fun h2=>?_) fun h2=>?_;(try simp only [bsimp] at h2);refine AU ?_;refine Yx (rowR (some b2)) [3,3,0,3,1,3] [0,0,2,6,1,31] mix KR [0,1,2,3,4,5] J ?_;have g:=gdr g;replace E:=E.dr;refine Zr 0 J J (fun _=>Qt [_,_] Yz J Vj (Up) J) (Zr 1 J J (fun _=>Zh Xt (Zc J)) (Yg 2 J J (fun w1 hx=>Zt Xc (Zc J) (fun _=>(E.g1.keep hx (fun h=>E.ne 1 0 J J J (Option.some.inj h))).at_ J)) (Zr 3 J J (fun _=>Zxc (Zc J) Xv) (Zm 4 J J ?_))));refine Zl (L':=[5]) [3,3,0,3,2,3] J J J ?_;refine AS fun _ hgS2 _ g E=>?_;refine Zs (hgS2) ?_;refine Zr 5 J J (fun _=>Ji (Zc J)) (TK [2,3] (Jl (kq (We (Wza (rs:=[.cell 2 24,.tmp 3]) (vs:=[_,_]) J J (Yoa J Zj J (E.g0.row) (Unb J (Uc))) J ?_)))));refine ⟨?_,g⟩;have h0:Str [] = .string ⟨#[]⟩:=rfl;unfold ofF;simp only [hq,Aea,Afa,h1,h2,Zfh,Zeh]
 first
 | rfl
 | (rw [Zch h6];rfl)
 | (rw [Zch h7];rfl)
 | (rw [Wka h11];rfl)
 | (obtain ⟨e1,e2⟩:=Yua h12 h11 (Zch h13);rw [e1,e2];rfl)
 | (rw [Yva h6 h7 (fun j hj=>hI1.2 j O)];rfl)
 refine IF (fun h3=>?_) fun h3=>?_;(try simp only [bsimp] at h3);refine AU ?_;refine CP (Vjd _ _ (hL.grow g) (by have:=g.size;omega)) (fun w23 g23=>?_);have g:=g.trans g23;replace E:=E.grow g23;refine Ze (kq (Um J (fun h4=>?_) (fun h4=>?_)));(try simp only [bsimp] at h4);refine Zk (Zn (Xa Xt J (Xn Xc J (E.g1.at_ J) (Vzb Yz Vj (pqc J (pqc J pq0)) J J (AS fun _ _ _ g E=>?_)))));refine RTN ?_;refine ⟨?_,g⟩;have h0:Str [] = .string ⟨#[]⟩:=rfl;unfold ofF;simp only [hq,Aea,Afa,h1,h2,h3,h4,Zfh,Zeh]
 first
 | rfl
 | (rw [Zch h6];rfl)
 | (rw [Zch h7];rfl)
 | (rw [Wka h11];rfl)
 | (obtain ⟨e1,e2⟩:=Yua h12 h11 (Zch h13);rw [e1,e2];rfl)
 | (rw [Yva h6 h7 (fun j hj=>hI1.2 j O)];rfl)
 refine AS fun _ _ _ g E=>?_;refine RTN ?_;refine ⟨?_,g⟩;have h0:Str [] = .string ⟨#[]⟩:=rfl;unfold ofF;simp only [hq,Aea,Afa,h1,h2,h3,h4,Zfh,Zeh]
 first
 | rfl
 | (rw [Zch h6];rfl)
 | (rw [Zch h7];rfl)
 | (rw [Wka h11];rfl)
 | (obtain ⟨e1,e2⟩:=Yua h12 h11 (Zch h13);rw [e1,e2];rfl)
 | (rw [Yva h6 h7 (fun j hj=>hI1.2 j O)];rfl)
 refine IF (fun h5=>?_) fun h5=>?_;(try simp only [bsimp] at h5);refine IF (fun h6=>?_) fun h6=>?_;(try simp only [bsimp] at h6);refine AS fun _ _ _ g E=>?_;refine RTN ?_;refine ⟨?_,g⟩;have h0:Str [] = .string ⟨#[]⟩:=rfl;unfold ofF;simp only [hq,Aea,Afa,h1,h2,h3,h5,h6,Zfh,Zeh]
 first
 | rfl
 | (rw [Zch h6];rfl)
 | (rw [Zch h7];rfl)
 | (rw [Wka h11];rfl)
 | (obtain ⟨e1,e2⟩:=Yua h12 h11 (Zch h13);rw [e1,e2];rfl)
 | (rw [Yva h6 h7 (fun j hj=>hI1.2 j O)];rfl)
 refine IF (fun h7=>?_) fun h7=>?_;(try simp only [bsimp] at h7);refine AS fun _ _ _ g E=>?_;refine RTN ?_;refine ⟨?_,g⟩;have h0:Str [] = .string ⟨#[]⟩:=rfl;unfold ofF;simp only [hq,Aea,Afa,h1,h2,h3,h5,h6,h7,Zfh,Zeh]
 first
 | rfl
 | (rw [Zch h6];rfl)
 | (rw [Zch h7];rfl)
 | (rw [Wka h11];rfl)
 | (obtain ⟨e1,e2⟩:=Yua h12 h11 (Zch h13);rw [e1,e2];rfl)
 | (rw [Yva h6 h7 (fun j hj=>hI1.2 j O)];rfl)
 refine AU ?_;refine' OR [1,2,3] (fun hb8=>?y8) (kq ?n8)
 case y8 =>
  refine AU ?_;refine' OR [1,2,3] (fun hb9=>?y9) knr
  case y9 =>
   refine AU ?_;refine' OR [1,2,3] (fun hb10=>?y10) knr
   case y10 =>
    refine AU ?_;refine SK [37,1,2,3] ?_;exact Ze knr
 case n8 =>
  refine Um J (fun h11=>?_) (fun h11=>?_);replace h11:(anyS [[],[110,105,108],[99,104,97,110,32,105,110,116],[102,117,110,99,40,41]] t.text)=true:=h11;refine Zk (Zn (Vzb Yz Vj pq0 J J (AS fun _ _ _ g E=>?_)));refine Xf J (Ze (kq (We (Wza (rs:=[.cell 2 24,.tmp 3]) (vs:=[_,_]) J J (Yoa J Zj J (E.g0.row) (Unb J (Uc))) J ?_))));refine ⟨?_,g⟩;have h0:Str [] = .string ⟨#[]⟩:=rfl;unfold ofF;simp only [hq,Aea,Afa,h1,h2,h3,h5,h6,h7,h11,Zfh,Zeh]
  first
  | rfl
  | (rw [Zch h6];rfl)
  | (rw [Zch h7];rfl)
  | (rw [Wka h11];rfl)
  | (obtain ⟨e1,e2⟩:=Yua h12 h11 (Zch h13);rw [e1,e2];rfl)
  | (rw [Yva h6 h7 (fun j hj=>hI1.2 j O)];rfl)
  replace h11:(anyS [[],[110,105,108],[99,104,97,110,32,105,110,116],[102,117,110,99,40,41]] t.text)=false:=h11;refine Yu (kq (Zk (Zn (Va Utb J J (hTx.grow g) (Zu J (Ze (kq (Yw (Qk (fun (i:Nat) u1=>(i≤13∧∀ j,j<i→typTexts.getD j []≠t.text)∧G w2 u1) [(1,True,_),(2,True,_),(43,True,_)] (fun (i:Nat)=>[(44,True,.int .i64 i)]) (fun (i:Nat)=>13-i) (0) ⟨⟨Aha _,fun j hj=>absurd hj (Ara j)⟩,G.refl _⟩ (Zb J (Zb J (Zb J (Zb J (Zq _))))) ?_)))))))));rintro i u1 ⟨hI1,gl1⟩;have g:=g.trans gl1;replace E:=E.grow gl1;refine Zk (Zn (Ykb J J (Ze (kq (Zk (Um J (fun h12=>?_) (fun h12=>?_)))))));replace h12:i<13:=by simp only [Zah] at h12;omega
  refine Yu (kq (Zk (Yw (Zk (Zn (Zu J (Zz J (fun _=>Xde Ygd (Zc J) (Zc J) (fun _=>O) (fun _=>by show (typTexts.map Str).toArray[((i:Nat):Int).toNat]? = _;rw [List.getElem?_toArray];exact Zzf (k:=(i:Int)) O O)) (Xf J (Xf J (Ze (kq (Zk (Zn (Zu J (Xa Xt J (Xn Xc J (E.g1.at_ J) (Uhe J J (?_))))))))))))))))));refine Ze (kq (Um J (fun h13=>?_) (fun h13=>?_)));replace h13:(decide (typTexts.getD i []=t.text))=true:=h13;refine AS fun _ ga _ g E=>?_;first|replace gl1:=Yq gl1 ga O|clear gl1|skip
  refine RTN ?_;refine ⟨?_,g⟩;have h0:Str [] = .string ⟨#[]⟩:=rfl;unfold ofF;simp only [hq,Aea,Afa,h1,h2,h3,h5,h6,h7,h11,h12,h13,Zfh,Zeh]
  first
  | rfl
  | (rw [Zch h6];rfl)
  | (rw [Zch h7];rfl)
  | (rw [Wka h11];rfl)
  | (obtain ⟨e1,e2⟩:=Yua h12 h11 (Zch h13);rw [e1,e2];rfl)
  | (rw [Yva h6 h7 (fun j hj=>hI1.2 j O)];rfl)
  replace h13:(decide (typTexts.getD i []=t.text))=false:=h13;refine AU ?_;refine SK [44,1,2,43] ?_;refine Ze (fun a ha=>?_)
  exact ⟨i+1,ha,⟨⟨h12,fun j hj=>by
   by_cases e:j=i;subst e;simpa using h13;exact hI1.2 j O⟩,gl1⟩,O⟩
  replace h12:i=13:=by simp only [Zbh] at h12;omega
  refine AS fun _ ga _ g E=>?_;first|replace gl1:=Yq gl1 ga O|clear gl1|skip
  refine RTN ?_;refine ⟨?_,g⟩;have h0:Str [] = .string ⟨#[]⟩:=rfl;unfold ofF;simp only [hq,Aea,Afa,h1,h2,h3,h5,h6,h7,h11,h12,Zfh,Zeh]
  first
  | rfl
  | (rw [Zch h6];rfl)
  | (rw [Zch h7];rfl)
  | (rw [Wka h11];rfl)
  | (obtain ⟨e1,e2⟩:=Yua h12 h11 (Zch h13);rw [e1,e2];rfl)
  | (rw [Yva h6 h7 (fun j hj=>hI1.2 j O)];rfl)
 refine AS fun _ _ _ g E=>?_;refine RTN ?_;refine ⟨?_,g⟩;have h0:Str [] = .string ⟨#[]⟩:=rfl;unfold ofF;simp only [hq,Aea,Afa,h1,h2,h3,h5,Zfh,Zeh]
 first
 | rfl
 | (rw [Zch h6];rfl)
 | (rw [Zch h7];rfl)
 | (rw [Wka h11];rfl)
 | (obtain ⟨e1,e2⟩:=Yua h12 h11 (Zch h13);rw [e1,e2];rfl)
 | (rw [Yva h6 h7 (fun j hj=>hI1.2 j O)];rfl)
structure Fld where
  name:List UInt8
  ty:Ty
def fldCells(f:Fld):List Ga:=[Str f.name,.int .i64 f.ty.kind,Str f.ty.name]
theorem Wlc(f:Fld):(fldCells f).length=3:=rfl
section
variable {α β:Type} (f:α→Option β)
def mapO:List α→Option (List β)
 | []=>some []
 | a::l=>match f a,mapO l with
  | some b,some r=>some (b::r)
  | _,_=>none
theorem Joc:∀ (l:List α) (a:α),mapO f (l++[a])=match mapO f l,f a with
  | some r,some b=>some (r++[b])
  | _,_=>none
 | [],a=>by simp only [mapO,List.nil_append];cases f a <;> rfl
 | x::l,a=>by
  rw [List.cons_append,mapO,Joc l a,mapO];cases f x <;> cases mapO f l <;> cases f a <;> rfl
theorem Vwc:∀ (l:List α) (a:α),a∈l→f a=none→mapO f l=none
 | x::l,a,h,hn=>by
  rw [mapO];rcases List.mem_cons.1 h with rfl|h;rw [hn];rw [Vwc l a h hn];cases f x <;> rfl
theorem Vxc:∀ (l:List α) (r:List β),mapO f l=some r→r.length=l.length
 | [],r,h=>by injection h with h;subst h;rfl
 | x::l,r,h=>by
  rw [mapO] at h
  cases h1:f x with
  | none=>rw [h1] at h;cases h
  | some b =>
   cases h2:mapO f l with
   | none=>rw [h1,h2] at h;cases h
   | some r'=>rw [h1,h2] at h;injection h with h;subst h;rw [Ala,Vxc l r' h2];rfl
end
def kid0(t:Nd):Nd:=t.kids.getD 0 nd0
def Zka(f:Nd):Option Fld:=bif !decide (f.kind=3) || !decide ((f.kids.length:Int)=1) then none else bif (ofF (kid0 f)).2 then some ⟨f.text,(ofF (kid0 f)).1⟩ else none
def isStr(name:List UInt8)(d:Nd):Bool:=!(!decide (d.kind=2) || !decide (d.text=name))
def Ug(t:Nd)(name:List UInt8):List Fld×Bool:=match t.kids.find? (isStr name) with
 | none=>([],false)
 | some d=>match mapO Zka d.kids with
  | none=>([],false)
  | some l=>(l,true)
theorem Qzf{name:List UInt8}{l:List Nd}{i:Nat}(hi:i<l.length)(h1:∀ j,(hj:j<l.length)→j<i→isStr name l[j]=false)(h2:isStr name l[i]=true):l.find? (isStr name)=some l[i]:=by
 rw [Bla];exact ⟨h2,i,hi,rfl,fun j hj=>by rw [h1 j O hj];rfl⟩
theorem Jaf{name:List UInt8}{l:List Nd}(h1:∀ j,(hj:j<l.length)→isStr name l[j]=false):l.find? (isStr name)=none:=by
 rw [Bma];intro x hx;obtain ⟨j,hj,rfl⟩:=Aqa hx;rw [h1 j hj];simp
def FldV(r:List Fld×Bool)(v:Ga)(w:Aa):Prop:=∃ l,v = .tuple #[l,.bool r.2]∧RowF fldCells w r.1 l
theorem Jbf{w:Aa}{base:Nat}{s:Ga}{l:List Fld}(h:w.ownsRow base 134 3 s l.length (l.flatMap fldCells)):RowF fldCells w l s:=Vkd h rfl
theorem Jcf{t:Nd}(h:t.kids.length=1):∃ h0:0<t.kids.length,kid0 t=t.kids[0]:=⟨O,by simp [kid0,Aga,Aca (show 0<t.kids.length by omega)]⟩
theorem Ycf{l:List Nd}{k:Nat}(hk:k<l.length){r:List Fld}{b:Fld}(h:mapO Zka (l.take k)=some r)(hb:Zka l[k]=some b):mapO Zka (l.take (k+1))=some (r++[b]):=by
 rw [Ytc hk,Joc,h,hb]
theorem Ydf{w:Aa}{base:Nat}{l:List Fld}(f:Fld){a:Option Addr}{c:Nat}(h:w.ownsRow base 134 3 (.slice a (l.length+1) c) (l.length+1) (l.flatMap fldCells++fldCells f)):w.ownsRow base 134 3 (.slice a (l++[f]).length c) (l++[f]).length ((l++[f]).flatMap fldCells):=by
 rw [Bra,Aka,Ana,List.flatMap_nil,Bba];exact h
theorem Jud(t:Nd)(name:List UInt8)(v:Ga)(D:Nat→Prop)(w:Aa)(hL:Laid w)(hb3:10≤w.heap.size)(hTx:LaidT w)(hk:Kd w D t.kids v)(hc:count t≤1000000):Ret PP 158 #[ndV t v,Str name] w fun r w'=>FldV (Ug t name) r w'∧G w w':=by
 obtain ⟨p,c,rfl,hcap,hks⟩:=hk;have g:=G.refl w;have hlen:=Wu t;refine WK 65 [0,1] Tryz.func158 ?_;refine BM fun _ w2 _ _ g E=>?_;refine AU ?_;refine Qk (fun (i:Nat) u1=>(i≤t.kids.length∧∀ j,(hj:j<t.kids.length)→j<i→isStr name t.kids[j]=false)∧G w2 u1) [(1,True,_),(14,True,_),(15,True,_)] (fun (i:Nat)=>[(16,True,.int .i64 i)]) (fun (i:Nat)=>t.kids.length-i) (0) ⟨⟨Aha _,fun j _ hj=>absurd hj (Ara j)⟩,G.refl _⟩ (Zb J (Zb J (Zb J (Zb J (Zq _))))) ?_;rintro i u1 ⟨hI1,gl1⟩;have g:=g.trans gl1;replace E:=E.grow gl1;refine Zk (Zn (Ykb J J (Ze (kq (Zk (Um J (fun h1=>?_) (fun h1=>?_)))))));replace h1:i<t.kids.length:=by simp only [Zah] at h1;omega
 obtain ⟨b,o,rfl,hD,xs,hR,hX⟩:=hks O;obtain ⟨p',c',hcell,hkid⟩:=Uyb hR hX h1;have hck:=Zpa h1;have hkl:=Wu t.kids[i];refine Yu (kq (Zk (Yw (Zk (Zn (Jhb Zd J J O (Va Zf J J (hcell.grow g) (AN fun _ _ ga _ g E=>?_))))))));have l7_gl1:=ga.ge gl1;have gl1:=gl1.trans (ga.g);refine AS fun wS1 ga _ g E=>?_;first|replace gl1:=Yq gl1 ga O|clear gl1|skip
 refine IF (fun h2=>?_) fun h2=>?_;replace h2:(!decide (t.kids[i].kind=2) || !decide (t.kids[i].text=name))=true:=h2;refine AU ?_;refine SK [16,1,14,15] ?_;refine Ze (fun a ha=>?_)
 exact ⟨i+1,ha,⟨⟨h1,fun j hj1 hj=>by
  by_cases e:j=i;subst e;unfold isStr;rw [h2];rfl;exact hI1.2 j hj1 O⟩,gl1⟩,O⟩
 replace h2:(!decide (t.kids[i].kind=2) || !decide (t.kids[i].text=name))=false:=h2;have hf:=Qzf h1 hI1.2 (by unfold isStr;rw [h2];rfl)
 have hN:Ug t name=match mapO Zka t.kids[i].kids with
  | none=>([],false)
  | some l=>(l,true):=by unfold Ug;rw [hf]
 obtain ⟨p2,c2,hpe,hcap2,hks2⟩:=hkid;injection hpe with hpe _ hce;subst hpe hce;have hb2:=E.g1.lt;have hb7:=E.g0.lt;refine AU ?_;refine Qk (fun (x:Nat×Option Addr×Nat×List Fld) u2=>match x with|⟨k,a,ca,l⟩=>(k≤t.kids[i].kids.length∧mapO Zka (t.kids[i].kids.take k)=some l∧u2.ownsRow wS1.heap.size 134 3 (.slice a l.length ca) l.length (l.flatMap fldCells))∧G wS1 u2) [(1,True,_),(14,True,_),(15,True,_),(16,True,_),(30,True,_),(31,True,_)] (fun (x:Nat×Option Addr×Nat×List Fld)=>match x with|⟨k,a,ca,l⟩=>[(8,True,.slice a l.length ca),(32,True,.int .i64 k)]) (fun (x:Nat×Option Addr×Nat×List Fld)=>match x with|⟨k,a,ca,l⟩=>t.kids[i].kids.length-k) ((0,none,0,[])) ⟨⟨Aha _,rfl,Jk _ _ _ _⟩,G.refl _⟩ (Zb J (Zb J (Zb J (Zb J (Zb J (Zb J (Zb J (Zb J (Zq _))))))))) ?_;rintro ⟨k,a,ca,l⟩ u2 ⟨hI2,gl2⟩;have g:=g.trans gl2;have gl1:=gl1.trans gl2;replace E:=E.grow gl2;obtain ⟨hk,hm,hO⟩:=hI2;have hll:=Vxc Zka _ _ hm;rw [Baa] at hll;refine Zk (Zn (Ykb J J (Ze (kq (Zk (Um J (fun h3=>?_) (fun h3=>?_)))))));replace h3:k<t.kids[i].kids.length:=by simp only [Zah] at h3;omega
 obtain ⟨b2,o2,rfl,hD2,xs2,hR2,hX2⟩:=hks2 O;obtain ⟨p3,c3,hcell3,hkid3⟩:=Uyb hR2 hX2 h3;have hck3:=Zpa h3;refine Yu (kq (Zk (Yw (Zk (Zn (Jhb Zd J J O (Va Zf J J (hcell3.grow g) (?_))))))));have hlt10:=fun k hk=>(hO.lt k hk).2;refine AN fun b10 _ N10 _ g E=>?_;have l10_gl1:=N10.ge gl1;have l10_gl2:=N10.ge gl2;have gl1:=gl1.trans (N10.g);have gl2:=gl2.trans (N10.g);have hO:=Xl hO (N10.g);have ne10:(Ia a l.length ca).ownBlock≠some b10:=fun h=>by have:=hlt10 _ h;have:=N10.at_;omega
 refine AS fun _ ga _ g E=>?_;first|replace gl1:=Yq gl1 ga O|clear gl1|skip
 first|replace gl2:=Yq gl2 ga O|clear gl2|skip
 have hO:=Yi hO ga (.inr ne10);refine IF (fun h4=>?_) fun h4=>?_;replace h4:(!decide (t.kids[i].kids[k].kind=3) || !decide ((t.kids[i].kids[k].kids.length:Int)=1))=true:=h4;have hbad:=Vwc Zka _ _ (Apa h3) (by unfold Zka;rw [h4];rfl);refine Zk (Zn (Xf J (Xf J (Ze (kq (We (Ztd (ts:=[4,5]) (vs:=[_,_]) J J J ?_)))))));rw [hN,hbad];exact ⟨⟨_,rfl,Vuc _⟩,g⟩;replace h4:(!decide (t.kids[i].kids[k].kind=3) || !decide ((t.kids[i].kids[k].kids.length:Int)=1))=false:=h4
 have h1k:t.kids[i].kids[k].kids.length=1:=by
  simp only [Bfa,Bool.not_eq_false',Zah] at h4;omega
 obtain ⟨h0k,ek⟩:=Jcf h1k;obtain ⟨p4,c4,hpe4,_,hks4⟩:=hkid3;injection hpe4 with hpe4 _ hce4;subst hpe4 hce4;obtain ⟨b4,o4,rfl,hD4,xs4,hR4,hX4⟩:=hks4 O;obtain ⟨p5,c5,hcell5,_⟩:=Uyb hR4 hX4 h0k;have hck5:=Wu t.kids[i].kids[k].kids[0];have hck6:=Zpa h0k;refine Yu (kq (Zk (Zn (Xa Zg J (Xn Zi J (E.g0.at_ J) (Zz J (fun _=>Jva Zd (Zc J) Xv (fun _=>by show (0:Int)≤0∧(0:Int)<((t.kids[i].kids[k].kids.length:Nat):Int);omega)) (Va Zf J J (hcell5.grow g) (Uv J (Zy Xvc Wz (aqc J aq0) J) (Ybf _ _ _ _ (hL.grow g) (by have:=g.size;omega) (hTx.grow g) O) (fun w50 g50=>?_)))))))));have g:=g.trans g50;have gl1:=gl1.trans (g50);have gl2:=gl2.trans (g50);replace E:=E.grow g50;have hO:=Xl hO (g50);refine AU ?_;have hlt11:=fun k hk=>(hO.lt k hk).2;refine AN fun b11 _ N11 _ g E=>?_;have l11_gl1:=N11.ge gl1;have l11_gl2:=N11.ge gl2;have gl1:=gl1.trans (N11.g);have gl2:=gl2.trans (N11.g);have hO:=Xl hO (N11.g);have ne11:(Ia a l.length ca).ownBlock≠some b11:=fun h=>by have:=hlt11 _ h;have:=N11.at_;omega
 refine AS fun _ ga _ g E=>?_;first|replace gl1:=Yq gl1 ga O|clear gl1|skip
 first|replace gl2:=Yq gl2 ga O|clear gl2|skip
 have hO:=Yi hO ga (.inr ne11);refine IF (fun h5=>?_) fun h5=>?_;replace h5:(!(ofF t.kids[i].kids[k].kids[0]).2)=true:=h5;have hbad:=Vwc Zka _ _ (Apa h3) (by unfold Zka;rw [h4,ek];simp only [Bool.not_eq_true'] at h5;rw [h5];rfl);refine Zk (Zn (Xf J (Xf J (Ze (kq (We (Ztd (ts:=[4,5]) (vs:=[_,_]) J J J ?_)))))));rw [hN,hbad];exact ⟨⟨_,rfl,Vuc _⟩,g⟩;replace h5:(!(ofF t.kids[i].kids[k].kids[0]).2)=false:=h5;have hgood:Zka t.kids[i].kids[k]=some ⟨t.kids[i].kids[k].text,(ofF t.kids[i].kids[k].kids[0]).1⟩:=by unfold Zka;rw [h4,ek];simp only [Bool.not_eq_false'] at h5;rw [h5];rfl
 refine Yu (kq (Zn (Zu J (Xa Xt J (Xn Xc J (E.g1.at_ J) (Va Zj J J E.g0.row (Vzb Usa Jvb (pqc J (pqc J pq0)) J J (CN fun _ _ ga _ g E=>?_))))))));have l60_gl1:=ga.ge gl1;have l60_gl2:=ga.ge gl2;have gl2:=gl2.trans (ga.g);have hO:=Xl hO (ga.g);refine Ur J Xdb Usa J Od (Zc J) hO (Zc J) J E.g0.row J (by simp only [maxLen];omega) O (by have:=gl2.size;omega) ?_;intro a' c' w61 hO' hg61 hat;have hOg:=fun k hk=>(hO.lt k hk).1;have g:=Yaa g hg61 (fun k hk=>by have:=hOg k hk;omega);replace gl2:=Yaa gl2 hg61 hOg;replace E:=E.sel [false,false,false,true,true];replace E:=E.keep hg61 (Axa.2 ⟨((fun he=>by have:=hOg _ he.symm;omega)),Axa.2 ⟨((fun he=>by have:=hOg _ he.symm;omega)),Bsa _⟩⟩);have hO2:=Ydf ⟨t.kids[i].kids[k].text,(ofF t.kids[i].kids[k].kids[0]).1⟩ hO';refine AU ?_;refine SK [8,32,1,14,15,16,30,31] ?_;refine Ze (fun a ha=>?_);refine ⟨(k+1,a',c',l++[⟨t.kids[i].kids[k].text,(ofF t.kids[i].kids[k].kids[0]).1⟩]),?_,⟨⟨h3,Ycf h3 hm hgood,hO2⟩,gl2⟩,by show t.kids[i].kids.length-(k+1)<t.kids[i].kids.length-k;omega⟩;simpa using ha;replace h3:k=t.kids[i].kids.length:=by simp only [Zbh] at h3;omega
 subst h3;rw [Aya] at hm;refine RTN ?_;rw [hN,hm];exact ⟨⟨_,rfl,Jbf hO⟩,g⟩;replace h1:i=t.kids.length:=by simp only [Zbh] at h1;omega
 subst h1;refine RTN ?_;have hN:Ug t name=([],false):=by unfold Ug;rw [Jaf fun j hj=>hI1.2 j hj O]
 rw [hN];exact ⟨⟨_,rfl,Vuc _⟩,g⟩
def opAr:List (List UInt8):=[[43],[45],[42],[47],[37]]
def opLt:List (List UInt8):=[[60],[60,61],[62],[62,61]]
def opEq:List (List UInt8):=[[61,61],[33,61]]
def opLo:List (List UInt8):=[[38,38],[124,124]]
def binT(op:List UInt8)(a b:Ty):Ty×Bool :=
 bif anyS opAr op then bif tyEqB a tInt&&tyEqB b tInt then (tInt,true) else (ty0,false)
 else bif anyS opLt op then bif tyEqB a tInt&&tyEqB b tInt then (tBool,true) else (ty0,false)
 else bif anyS opEq op then bif compB a b then (tBool,true) else (ty0,false)
 else bif anyS opLo op then bif tyEqB a tBool&&tyEqB b tBool then (tBool,true) else (ty0,false)
 else (ty0,false)
theorem Vyc(a b y:Ty)(p q:Nat)(w:Aa)(hp:Blk w p 24 (tyCells a))(hq:Blk w q 24 (tyCells b)):Ret PP 159 #[tyV y,.pointer (some ⟨p,0,none⟩),.pointer (some ⟨q,0,none⟩)] w fun v w'=>v = .bool (tyEqB a y&&tyEqB b y)∧G w w':=by
 have g:=G.refl w;refine WK 13 [0,1,2] Tryz.func159 ?_;refine Zk (Zn (BM fun _ _ _ _ g E=>?_));refine Xf J (Ze (kq (Zk (Zn (Va Zj J J (by first|exact (hp.grow g).row|exact (hq.grow g).row|exact E.g0.at_ J|exact E.g0.row) (Va Zj J J E.g0.row (Zz J (fun _=>Jd Wh (Zc J) (Zc J) J) (Zu J (Wb J J J (Zo Zj (Zc J) J (fun _=>by first|exact (hp.grow g).row|exact (hq.grow g).row|exact E.g0.at_ J|exact E.g0.row)) (Wb J J J (Zo Zj (Zc J) J (fun _=>E.g0.row)) (Zv J J J (fun _=>Jd Wh (Yc J id) (Yc J id) J) (Zz J (fun _=>Wn (Zc J) (Yc J id)) (Xf J (Ze (kq (We (Vz J J ?_)))))))))))))))));exact ⟨rfl,g⟩
theorem Jdf(op:List UInt8)(a b:Ty)(w:Aa)(hL:Laid w)(hb3:10≤w.heap.size):Ret PP 140 #[Str op,tyV a,tyV b] w fun v w'=>v = .tuple #[tyV (binT op a b).1,.bool (binT op a b).2]∧G w w':=by
 have g:=G.refl w;refine WK 49 [0,1,2] Tryz.func140 ?_;refine Zk (Zn (BM fun _ _ _ _ g E=>?_));refine BN fun _ _ _ _ g E=>?_;refine AN fun _ _ _ _ g E=>?_;refine Xf J (Ze (kq (Zk (Zn (Vzb Yz Vj (pqc J pq0) J J (Vzb Yz Vj (pqc J pq0) J J (AN fun _ _ _ _ g E=>?_)))))));refine AN fun _ _ _ _ g E=>?_;refine AS fun _ _ _ g E=>?_;refine AS fun _ _ _ g E=>?_;refine Ze (kq (Zk (Zn (Zz J (fun _=>Jfb (aq0) (aqc J (aqc J aq0))) (Xf J (Ze (kq (Zk (Zk (Zn (Zu J (Ze (kq (Yw (Zk (Zk (Zn (Uhe J J (?_)))))))))))))))))));refine Xf J (Ze (kq (?_)));refine' Xqg [(4,_,_),(5,_,_),(6,_,_),(7,_,_),(8,_,_),(9,_,_),(10,_,_),(14,_,_)] (Zb J (Zb J (Zb J (Zb J (Zb J (Zb J (Zb J (Zb J (Zb J (Zq _)))))))))) J (fun hb1=>?y1) (kq ?n1)
 case y1 =>
  refine AU ?_;refine' OR [4,5,6,7,8,9,10,14] (fun hb2=>?y2) knr
  case y2 =>
   refine AU ?_;refine' OR [4,5,6,7,8,9,10,14] (fun hb3=>?y3) knr
   case y3 =>
    refine AU ?_;refine' OR [4,5,6,7,8,9,10,14] (fun hb4=>?y4) knr
    case y4 =>
     refine AU ?_;refine SK [15,4,5,6,7,8,9,10,14] ?_;exact Ze knr
 case n1 =>
  refine IF (fun h5=>?_) fun h5=>?_;(try simp only [bsimp] at h5);refine AU ?_;refine Uv J (Zy Xla (Zc J) (aqc J aq0) J) (Vyc a b tInt _ _ _ E.g4 E.g3) (fun w23 g23=>?_);have g:=g.trans g23;replace E:=E.grow g23;refine IF (fun h6=>?_) fun h6=>?_;(try simp only [bsimp] at h6);refine AS fun _ _ _ g E=>?_;refine RTN ?_;refine ⟨?_,g⟩;unfold binT;simp only [anyS,opAr,opLt,opEq,opLo,h5,h6,Zfh,Zeh];rfl;refine AS fun _ _ _ g E=>?_;refine RTN ?_;refine ⟨?_,g⟩;unfold binT;simp only [anyS,opAr,opLt,opEq,opLo,h5,h6,Zfh,Zeh];rfl;refine AU ?_;refine' OR [4,5,6,7,8,9,10,14] (fun hb7=>?y7) (kq ?n7)
  case y7 =>
   refine AU ?_;refine' OR [4,5,6,7,8,9,10,14] (fun hb8=>?y8) knr
   case y8 =>
    refine AU ?_;refine' OR [4,5,6,7,8,9,10,14] (fun hb9=>?y9) knr
    case y9 =>
     refine AU ?_;refine SK [25,4,5,6,7,8,9,10,14] ?_;exact Ze knr
  case n7 =>
   refine IF (fun h10=>?_) fun h10=>?_;(try simp only [bsimp] at h10);refine AU ?_;refine Uv J (Zy Xla (Zc J) (aqc J aq0) J) (Vyc a b tInt _ _ _ E.g4 E.g3) (fun w32 g32=>?_);have g:=g.trans g32;replace E:=E.grow g32;refine IF (fun h11=>?_) fun h11=>?_;(try simp only [bsimp] at h11);refine AS fun _ _ _ g E=>?_;refine RTN ?_;refine ⟨?_,g⟩;unfold binT;simp only [anyS,opAr,opLt,opEq,opLo,h5,h10,h11,Zfh,Zeh];rfl;refine AS fun _ _ _ g E=>?_;refine RTN ?_;refine ⟨?_,g⟩;unfold binT;simp only [anyS,opAr,opLt,opEq,opLo,h5,h10,h11,Zfh,Zeh];rfl;refine AU ?_;refine' OR [4,5,6,7,9,10,14] (fun hb12=>?y12) (kq ?n12)
   case y12 =>
    refine AU ?_;refine SK [34,4,5,6,7,9,10,14] ?_;exact Ze knr
   case n12 =>
    refine IF (fun h13=>?_) fun h13=>?_;(try simp only [bsimp] at h13);refine AU ?_;refine CP (Zyf _ _ _ (hL.grow g) (by have:=g.size;omega)) (fun w39 g39=>?_);have g:=g.trans g39;replace E:=E.grow g39;refine IF (fun h14=>?_) fun h14=>?_;(try simp only [bsimp] at h14);refine AS fun _ _ _ g E=>?_;refine RTN ?_;refine ⟨?_,g⟩;unfold binT;simp only [anyS,opAr,opLt,opEq,opLo,h5,h10,h13,h14,Zfh,Zeh];rfl;refine AS fun _ _ _ g E=>?_;refine RTN ?_;refine ⟨?_,g⟩;unfold binT;simp only [anyS,opAr,opLt,opEq,opLo,h5,h10,h13,h14,Zfh,Zeh];rfl;refine AU ?_;refine' OR [6,7,9,10] (fun hb15=>?y15) (kq ?n15)
    case y15 =>
     refine AU ?_;refine SK [41,6,7,9,10] ?_;exact Ze knr
    case n15 =>
     refine IF (fun h16=>?_) fun h16=>?_;(try simp only [bsimp] at h16);refine AU ?_;refine Uv J (Zy Xla (Zc J) (aqc J aq0) J) (Vyc a b tBool _ _ _ E.g4 E.g3) (fun w46 g46=>?_);have g:=g.trans g46;replace E:=E.grow g46;refine IF (fun h17=>?_) fun h17=>?_;(try simp only [bsimp] at h17);refine AS fun _ _ _ g E=>?_;refine RTN ?_;refine ⟨?_,g⟩;unfold binT;simp only [anyS,opAr,opLt,opEq,opLo,h5,h10,h13,h16,h17,Zfh,Zeh];rfl;refine AS fun _ _ _ g E=>?_;refine RTN ?_;refine ⟨?_,g⟩;unfold binT;simp only [anyS,opAr,opLt,opEq,opLo,h5,h10,h13,h16,h17,Zfh,Zeh];rfl;refine AS fun _ _ _ g E=>?_;refine RTN ?_;refine ⟨?_,g⟩;unfold binT;simp only [anyS,opAr,opLt,opEq,opLo,h5,h10,h13,h16,Zfh,Zeh];rfl
theorem Yea(y:Ty):(tyCells y).length=2:=rfl
def Qxa(s:List UInt8):Bool:=decide (s=[76,111,99,107]) || decide (s=[85,110,108,111,99,107])
def mthF(y:Ty)(s:List UInt8):List Ty×Ty×Bool :=
 bif !tyValidB y then ([],ty0,false)
 else bif decide (y.kind=8) then ([],ty0,Qxa s)
 else bif decide (y.kind=9) then ([],ty0,(Qxa s || decide (s=[82,76,111,99,107])) || decide (s=[82,85,110,108,111,99,107]))
 else bif decide (y.kind=10) then (bif decide (s=[65,100,100]) then ([tInt],ty0,true) else ([],ty0,decide (s=[68,111,110,101]) || decide (s=[87,97,105,116])))
 else bif decide (y.kind=11) then (bif decide (s=[68,111]) then ([tFunc],ty0,true) else ([],ty0,false))
 else bif decide (y.kind=12) then (bif decide (s=[76,111,97,100]) then ([],tInt,true) else bif decide (s=[83,116,111,114,101]) then ([tInt],ty0,true) else bif decide (s=[65,100,100]) then ([tInt],tInt,true) else bif decide (s=[67,111,109,112,97,114,101,65,110,100,83,119,97,112]) then ([tInt,tInt],tBool,true) else ([],ty0,false))
 else ([],ty0,false)
def FnV(P:Fa)(q:Int→Bool)(v:Ga)(w:Aa):Prop:=∃ f fs cs,v = .func (.func f) fs cs∧goFn P f=true∧∀ (k:Int) (w':Aa),G w w'→Ret P f (fs ++ #[.int .i64 k]++cs) w' fun r w''=>r = .bool (q k)∧G w' w''
theorem FnV.grow{P:Fa}{q:Int→Bool}{v:Ga}{w w':Aa}(h:FnV P q v w)(g:G w w'):FnV P q v w':=by
 obtain ⟨f,fs,cs,rfl,h1,h2⟩:=h;exact ⟨f,fs,cs,rfl,h1,fun k w'' g'=>h2 k w'' (g.trans g')⟩
theorem Xra{P:Fa}{q:Int→Bool}{f:Nat}(hgo:goFn P f=true)(h:∀ (k:Int) (w:Aa),Ret P f #[.int .i64 k] w fun r w'=>r = .bool (q k)∧G w w')(w:Aa):FnV P q (.func (.func f) #[] #[]) w :=
 ⟨f,#[],#[],rfl,hgo,fun k w' _=>by simpa using h k w'⟩
section
variable {P:Fa} {Z:List Da→Act→Aa→Prop} {ops:List Oper} {cl:List Nat} {lv:List Bool} {W0:Aa} {n:Nat} {K:Act→Aa→Prop} {k:Nat} {rest:List Oper} {σ:List Ent} {w:Aa} {d:Nat} {ty:Ba} {pos:String} {after:Array Edge}
theorem Jef{g t:Nat}{want b:Bool}{c0:Prop}{op:Op}{v:Ga}{w':Aa}(hb:(!Aaa (clOf cl k) 0 && !Aaa (clOf cl k) 3&&Aia d n)=true)
 (hgd:((ops.toArray[g]?).bind (·.dst))=some t) (hlk:look σ t=some (c0,.bool b)) (hr:RunV P n σ (c0∧b=want) w op ty v w') (hg:G w w')
 (h:(c0∧b=want)→SR P Z ops cl lv W0 n K (k+1) rest ((d,c0∧b=want,v) :: σ) w') (h':¬ (c0∧b=want)→SR P Z ops cl lv W0 n K (k+1) rest ((d,c0∧b=want,v) :: σ) w) :
 SR P Z ops cl lv W0 n K k (⟨some d,op,ty,pos,after,some (g,want)⟩::rest) σ w:=.mk fun hl a ha=>by
 obtain ⟨h0,h1⟩:=Jj hl;simp only [Aja,Bool.not_eq_true'] at hb;rw [Ala,List.range'_succ];have hw:=Jia (op:=op) (ty:=ty) (pos:=pos) (after:=after) (want:=want) (d:=some d) hgd hlk ha;refine ⟨_,h0,?_⟩;rw [if_neg (fun he=>by rcases he with he|he <;> rw [he] at hb <;> simp at hb)]
 by_cases hh:c0∧b=want;rw [if_pos (hw.2 hh)];exact .inl ⟨v,w',hr _ _ _ _ a ha hh,fun _=>hg,h hh h1 _ (ha.put hb.2 (fun _=>rfl) (fun hn=>absurd hh hn))⟩;rw [if_neg (fun hq=>hh (hw.1 hq))];exact h' hh h1 _ (ha.put hb.2 (fun hq=>absurd hq hh) (fun _=>rfl))
theorem Vzc{g t0:Nat}{want bb:Bool}{c0:Prop}{t e z by_ m:Nat}{ps:Array (Nat×Ea)}{vs:List (Nat×Ga)}{zv:Ga}(l:List Ga)(hb:(!Aaa (clOf cl k) 0 && !Aaa (clOf cl k) 3&&Aia d n)=true)(hgd:((ops.toArray[g]?).bind (·.dst))=some t0)(hlk:look σ t0=some (c0,.bool bb))
 (ht:tyElem P t=some (e,z,by_)) (hz:zeroOf P e=some zv)
 (hx:Xja n σ (c0∧bb=want) ps vs) (hm:(Nat.ble (m*z) 16777216 && !Aaa (m*z) 0&&Aaa vs.length m)=true) (hf:Xtc z 0 vs=some l)
 (h:∀ b w1,G w w1→(c0∧bb=want→Blk w1 b e l)→SR P Z ops cl lv W0 n K (k+1) rest ((d,c0∧bb=want,.slice (some ⟨b,0,none⟩) m m) :: σ) w1) :
 SR P Z ops cl lv W0 n K k (⟨some d,.buildSlice t m ps,ty,pos,after,some (g,want)⟩::rest) σ w:=by
 obtain ⟨hu,i,hi,hsz,_⟩:=Ub ht;obtain ⟨i',hi',hz'⟩:=Uwa hz;obtain rfl:i=i':=Option.some.inj (hi.symm.trans hi');simp only [Aja,Bool.not_eq_true'] at hm;have hm1:¬ (m*z>2 ^ 24):=by have:=Nat.le_of_ble_eq_true hm.1.1;omega
 have hm2:¬ (m*z=0):=by intro he;rw [he] at hm;simp at hm
 have hvl:=Bna hm.2
 have hfill:Instr.fill (fun i=>some (i*z,z)) ((Array.range (m*z)).map (zv.cells[· % zv.cells.size]!)) vs=some l.toArray:=by
  have h1:=Qfb z vs 0 [] ((Array.range (m*z)).map (zv.cells[· % zv.cells.size]!)).toList l hf Os (by simp [hvl]) Os;have:=Vjb _ _ _ _ h1;rwa [Array.toArray_toList] at this
 refine Jef hb hgd hlk (w':=w.alloc (.cells l.toArray e)) (v:=.slice (some ⟨w.heap.size,0,none⟩) m m) (fun d pos after g a ha hc=>?_) (Zna w e l).g (fun hc=>h _ _ (Zna w e l).g (fun _=>(Zna w e l).blk)) (fun hc=>h _ _ (G.refl w) (fun hq=>absurd hq hc));have hx':=hx a ha hc;simp only [execOp,Instr.buildSlice,Sem.run_bind,run_underlying hu,Ha,sizeOf,typeInfo,run_program,hi,Sem.run_pure,hsz,if_neg hm1,if_neg hm2,zeroValue,hz'];rw [hx',hfill];simp [newRow]
end
section
variable {P:Fa} {n:Nat} {σ:List Ent} {c:Prop} {wb:Aa} {ty:Ba} {v:Ga}
theorem Vnd{t e z by_:Nat}{x y:Ea}{o:Option Addr}{m q:Nat}{k:IntKind}(ht:tyElem P t=some (e,z,by_))(h:Ev n σ c x (.slice o m q))(h':Ev n σ c y (.int k 0)) :
 Rd P n σ c wb (.slice t x (some y) none none) ty (.slice o m q):=.mk fun d pos after gd a ha hc w1 _=>by
 obtain ⟨hu,inf,hin,hz,_⟩:=Ub ht;have e2:o.map (fun b=>Addr.add b 0)=o:=by cases o <;> simp [Addr.add]
 simp only [execOp,h a ha hc,h' a ha hc,Instr.sliceAt,Option.map_some,Option.map_none,Sem.run_bind,run_underlying hu,Ha];simp [Instr.slice,run_underlying hu,Instr.sliceBounds,Instr.sliceBound,asIntOf,Xtb hin,e2]
end
def typK(k:Int):Bool:=anyK [7,8] k
def expK(k:Int):Bool:=anyK [28,29,30,31,32,33,35,36,37,27,34,24,25,26,38] k
def stK(k:Int):Bool:=anyK [6,10,11,12,13,14,15,16,17,21,18,19,20,22] k
def memK(l:List Int)(k:Int):Bool:=decide (k∈l)
theorem Jvd(s:List UInt8)(w:Aa)(hL:Laid w)(hb3:10≤w.heap.size):Ret PP 100 #[Str s] w fun v w'=>v = .bool (nameB s)∧G w w':=by
 have g:=G.refl w;refine WK 34 [0] Tryz.func100 ?_;refine AU ?_;refine CL (Xge s _ (hL.grow g) (by have:=g.size;omega)) ?_;rintro v8 w8 ⟨l,rfl,hT,g8⟩;obtain ⟨a,c,rfl,hr⟩:=Vtc hT;refine ⟨fun _=>g8,?_⟩;have g:=g.trans g8;refine AU ?_;refine Zv J J J (fun _=>Xr Ww (Yc J id) Xv (fun hc=>by have:=Zch (Aba.1 hc.2).2;omega) (fun hc=>(hr (by have:=Zch (Aba.1 hc.2).2;omega)).1)) ?_;refine AU ?_;refine Wb J J J (Zt Yf (Yc J id) (fun hc=>(hr (by have:=Zch (Aba.1 hc.2).2;omega)).2 0 _ J)) ?_;refine AU ?_;refine Zv J J J (fun _=>Xr Ww (Yc J id) Xv (fun hc=>by have:=Zch (Aba.1 (Aba.1 hc.2).1).2;omega) (fun hc=>(hr (by have:=Zch (Aba.1 (Aba.1 hc.2).1).2;omega)).1)) ?_;refine AU ?_;refine Wb J J J (Zt Xc (Yc J id) (fun hc=>(hr (by have:=Zch (Aba.1 (Aba.1 hc.2).1).2;omega)).2 1 _ J)) ?_;refine RTN ?_;refine ⟨Jzg ?_,g⟩;rw [← Vid];rfl
theorem Wmb(k:Int)(w:Aa):Ret PP 104 #[.int .i64 k] w fun v w'=>v = .bool (typK k)∧G w w':=by
 have g:=G.refl w;refine WK 9 [0] Tryz.func104 ?_;refine RTN ?_;exact ⟨rfl,g⟩
theorem Qj(k:Int)(w:Aa):Ret PP 106 #[.int .i64 k] w fun v w'=>v = .bool (expK k)∧G w w':=by
 have g:=G.refl w;refine WK 20 [0] Tryz.func106 ?_;refine AU ?_;refine' OR [2] (fun hb1=>?y1) (kq ?n1)
 case y1 =>
  refine AU ?_;refine' OR [2] (fun hb2=>?y2) knr
  case y2 =>
   refine AU ?_;refine' OR [2] (fun hb3=>?y3) knr
   case y3 =>
    refine AU ?_;refine' OR [2] (fun hb4=>?y4) knr
    case y4 =>
     refine AU ?_;refine' OR [2] (fun hb5=>?y5) knr
     case y5 =>
      refine AU ?_;refine' OR [2] (fun hb6=>?y6) knr
      case y6 =>
       refine AU ?_;refine' OR [2] (fun hb7=>?y7) knr
       case y7 =>
        refine AU ?_;refine' OR [2] (fun hb8=>?y8) knr
        case y8 =>
         refine AU ?_;refine' OR [2] (fun hb9=>?y9) knr
         case y9 =>
          refine AU ?_;refine' OR [2] (fun hb10=>?y10) knr
          case y10 =>
           refine AU ?_;refine' OR [2] (fun hb11=>?y11) knr
           case y11 =>
            refine AU ?_;refine' OR [2] (fun hb12=>?y12) knr
            case y12 =>
             refine AU ?_;refine' OR [2] (fun hb13=>?y13) knr
             case y13 =>
              refine AU ?_;refine' OR [2] (fun hb14=>?y14) knr
              case y14 =>
               refine AU ?_;refine SK [4,2] ?_;exact Ze knr
 case n1 =>
  refine IF (fun h15=>?_) fun h15=>?_;(try simp only [bsimp] at h15);refine RTN ?_;refine ⟨Jzg ?_,g⟩;simp only [expK,anyK];exact (h15).symm;refine RTN ?_;refine ⟨Jzg ?_,g⟩;simp only [expK,anyK];exact (h15).symm
theorem Ysd(k:Int)(w:Aa):Ret PP 107 #[.int .i64 k] w fun v w'=>v = .bool (stK k)∧G w w':=by
 have g:=G.refl w;refine WK 19 [0] Tryz.func107 ?_;refine AU ?_;refine' OR [2] (fun hb1=>?y1) (kq ?n1)
 case y1 =>
  refine AU ?_;refine' OR [2] (fun hb2=>?y2) knr
  case y2 =>
   refine AU ?_;refine' OR [2] (fun hb3=>?y3) knr
   case y3 =>
    refine AU ?_;refine' OR [2] (fun hb4=>?y4) knr
    case y4 =>
     refine AU ?_;refine' OR [2] (fun hb5=>?y5) knr
     case y5 =>
      refine AU ?_;refine' OR [2] (fun hb6=>?y6) knr
      case y6 =>
       refine AU ?_;refine' OR [2] (fun hb7=>?y7) knr
       case y7 =>
        refine AU ?_;refine' OR [2] (fun hb8=>?y8) knr
        case y8 =>
         refine AU ?_;refine' OR [2] (fun hb9=>?y9) knr
         case y9 =>
          refine AU ?_;refine' OR [2] (fun hb10=>?y10) knr
          case y10 =>
           refine AU ?_;refine' OR [2] (fun hb11=>?y11) knr
           case y11 =>
            refine AU ?_;refine' OR [2] (fun hb12=>?y12) knr
            case y12 =>
             refine AU ?_;refine' OR [2] (fun hb13=>?y13) knr
             case y13 =>
              refine AU ?_;refine SK [4,2] ?_;exact Ze knr
 case n1 =>
  refine IF (fun h14=>?_) fun h14=>?_;(try simp only [bsimp] at h14);refine RTN ?_;refine ⟨Jzg ?_,g⟩;simp only [stK,anyK];exact (h14).symm;refine RTN ?_;refine ⟨Jzg ?_,g⟩;simp only [stK,anyK];exact (h14).symm
theorem Uze(l:List Int)(b:Nat)(p:Option Addr)(c:Nat)(k:Int)(w:Aa)(hB:Blk w b 56 [.slice p l.length c])(hp:0<l.length→∃ b o,p=some ⟨b,o,none⟩∧RowAt w b o (l.map (Value.int .i64)))(hl:l.length≤1000) :
 Ret PP 133 #[.int .i64 k,.pointer (some ⟨b,0,none⟩)] w fun v w'=>v = .bool (memK l k)∧G w w':=by
 have g:=G.refl w;refine WK 16 [0,1] Tryz.func133 ?_;refine AU ?_;refine Qk (fun (i:Nat) u1=>(i≤l.length∧∀ j,(h:j<l.length)→j<i→l[j]≠k)∧G w u1) [(0,True,_),(6,True,_),(7,True,_)] (fun (i:Nat)=>[(8,True,.int .i64 i)]) (fun (i:Nat)=>l.length-i) (0) ⟨⟨Aha _,fun j _ hj=>absurd hj (Ara j)⟩,G.refl _⟩ (Zb J (Zb J (Zb J (Zb J (Zq _))))) ?_;rintro i u1 ⟨hI1,gl1⟩;have g:=g.trans gl1;refine Zk (Zn (Ykb J J (Ze (kq (Zk (Um J (fun h1=>?_) (fun h1=>?_)))))));replace h1:i<l.length:=by simp only [Zah] at h1;omega
 obtain ⟨b2,o2,rfl,hR⟩:=hp O;have hv:(l.map (Value.int .i64))[i*1]? = some (.int .i64 l[i]):=by simp [h1]
 refine Yu (kq (Zk (Yw (Zk (Zn (Jhb Zoa J J O (Xn Yf J ((hR.grow g) _ _ hv) (Xf J (Ze (kq (Zk (Zn (Zu J (Zu J (Yjb J J (Ze (kq (Um J (fun h2=>?_) (fun h2=>?_)))))))))))))))))));simp only [Zah] at h2;refine RTN ?_;refine ⟨Jzg ?_,g⟩;rw [memK,eq_comm,Zah,← h2];exact Apa h1;simp only [Zbh] at h2;refine AU ?_;refine SK [8,0,6,7] ?_;refine Ze (fun a ha=>?_);refine ⟨i+1,ha,⟨⟨h1,fun j h hj=>?_⟩,gl1⟩,O⟩;by_cases e:j=i;subst e;exact h2;exact hI1.2 j h O;refine RTN ?_;refine ⟨Jzg ?_,g⟩;rw [memK,eq_comm,Zbh];intro hm;obtain ⟨j,hj,e⟩:=Aqa hm;simp only [Zbh] at h1;exact hI1.2 j hj O e
theorem Yfa(l:List Int)(b o c:Nat)(w:Aa)(hR:RowAt w b o (l.map (Value.int .i64)))(hl:l.length≤1000):Ret PP 101 #[.slice (some ⟨b,o,none⟩) l.length c] w fun v w'=>FnV PP (memK l) v w'∧G w w':=by
 have g:=G.refl w;refine WK 4 [0] Tryz.func101 ?_;refine Zk (Zn (BM fun _ _ _ _ g E=>?_));refine Xf J (Ze (kq (Zk (Zn (Zz J (fun _=>Jfb (aq0) (aqc J aq0)) (Xf J (Ze (kq (We (Vz J J ?_))))))))));refine ⟨⟨_,_,_,rfl,Jkb,fun k w' g'=>?_⟩,g⟩;exact Uze l _ _ _ k w' (E.g0.grow g') (fun _=>⟨b,o,rfl,(hR.grow g).grow g'⟩) hl
theorem Jwd(q r:Int→Bool)(f h:Ga)(b1 b2:Nat)(k:Int)(w:Aa)(h1:Blk w b1 103 [f])(h2:Blk w b2 103 [h])(hF:FnV PP q f w)(hH:FnV PP r h w) :
 Ret PP 134 #[.int .i64 k,.pointer (some ⟨b1,0,none⟩),.pointer (some ⟨b2,0,none⟩)] w fun v w'=>v = .bool (q k || r k)∧G w w':=by
 have g:=G.refl w;obtain ⟨f0,fs0,cs0,rfl,hgo0,hf0⟩:=hF;obtain ⟨f1,fs1,cs1,rfl,hgo1,hf1⟩:=hH;refine Ul (m:=13) Tryz.func134 J J [(0,True,_),(1,True,_),(2,True,_)] (Zb J (Zb J (Zb J (Zq _)))) ?_;refine Zk (Zn (Xf J (Ze (kq (Zk (Zn (Xn Zva J ((h1.grow g).at_ J) (Zu J (Uv J (Zy hgo0 (Zc J) (aqc J aq0) J) (hf0 k _ g) (fun w7 g7=>?_))))))))));have g:=g.trans g7;refine Zu J (Wb J J J (Zt Zva (Zc J) (fun _=>(h2.grow g).at_ J)) (Zv J J J (fun _=>Zw (Zc J)) (Zha J J J (fun _=>(Zy hgo1 (Yc J id) (Yn (Yc J id) (Xw)) J)) (fun hc=>hf1 k _ g) (fun w11 g11=>?_))));have g:=g.trans g11;refine RTN ?_;exact ⟨rfl,g⟩
theorem Ztb(q:Int→Bool)(l:List Int)(f:Ga)(b o c:Nat)(w:Aa)(hF:FnV PP q f w)(hR:RowAt w b o (l.map (Value.int .i64)))(hl:l.length≤1000):Ret PP 105 #[f,.slice (some ⟨b,o,none⟩) l.length c] w fun v w'=>FnV PP (fun k=>q k || memK l k) v w'∧G w w':=by
 have g:=G.refl w;have hF0:=hF;obtain ⟨f0,fs0,cs0,rfl,hgo0,hf0⟩:=hF;refine WK 9 [0,1] Tryz.func105 ?_;refine BM fun _ _ _ _ g E=>?_;refine Xf J (Ze (kq (Zk (Zn (Zu J (CL (Yfa l _ _ _ _ (hR.grow g) hl) ?_))))));rintro v7 w7 ⟨hA,g7⟩;refine ⟨fun _=>g7,?_⟩;have g:=g.trans g7;have hA0:=hA;obtain ⟨f1,fs1,cs1,rfl,hgo1,hf1⟩:=hA;replace E:=E.grow g7;have gm:=G.refl w7;refine AN fun _ _ ga _ g E=>?_;have l5_gm:=ga.ge gm;have gm:=gm.trans (ga.g);refine AS fun _ ga _ g E=>?_;first|replace gm:=Yq gm ga O|clear gm|skip
 refine Ze (kq (Zk (Zn (Zz J (fun _=>Jfb (aq0) (aqc J (aqc J aq0))) (Xf J (Ze (kq (We (Vz J J ?_)))))))));refine ⟨⟨_,_,_,rfl,Qhb,fun k w' g'=>?_⟩,g⟩;exact Jwd q (memK l) _ _ _ _ k w' (E.g1.grow g') (E.g0.grow g') ((hF0.grow g).grow g') ((hA0.grow gm).grow g')
def Za(t:Nd)(i:Nat):Nd:=t.kids.getD i nd0
theorem Yj{t:Nd}{i:Nat}(h:i<t.kids.length):Za t i=t.kids[i]:=by simp [Za,Aga,Aca h]
def kidsB(t:Nd)(qs:List (Int→Bool)):Bool:=decide (t.kids.length=qs.length)&&(List.range qs.length).all fun i=>(qs.getD i (fun _=>false)) (Za t i).kind
def everyB(t:Nd)(q:Int→Bool):Bool:=t.kids.all fun k=>q k.kind
theorem Yka(t:Nd)(p:Option Addr)(c:Nat)(D:Nat→Prop)(qs:List (Int→Bool))(vs:List Ga)(b o cap:Nat)(w:Aa)(hk:Kd w D t.kids (.slice p t.kids.length c))(hl:vs.length=qs.length)(hR:RowAt w b o vs)
 (hF:∀ i (h:i<vs.length),FnV PP (qs.getD i (fun _=>false)) vs[i] w) (hc:t.kids.length≤1000000):Ret PP 103 #[ndV t (.slice p t.kids.length c),.slice (some ⟨b,o,none⟩) qs.length cap] w fun v w'=>v = .bool (kidsB t qs)∧G w w':=by
 have g:=G.refl w;obtain ⟨p',c',hpe,_,hks⟩:=hk;injection hpe with hpe _ hce;subst hpe hce;refine WK 30 [0,1] Tryz.func103 ?_;refine BM fun _ w2 _ _ g E=>?_;refine IF (fun h1=>?_) fun h1=>?_
 have hN:kidsB t qs=false:=by
  have:¬ t.kids.length=qs.length:=by simp at h1;omega
  rw [kidsB,Jxg this];rfl
 refine RTN ?_;rw [hN];exact ⟨rfl,g⟩;have hle:t.kids.length=qs.length:=by simp at h1;omega
 refine Yu (kq (Zk (Zk (Zn (Zu J (Xva Jh J (Zu J (Ze (kq (Yw (Qk (fun (i:Nat) u1=>(i≤qs.length∧∀ j,j<i→(qs.getD j (fun _=>false)) (Za t j).kind=true)∧G w2 u1) [(2,True,_),(13,True,_),(14,True,_)] (fun (i:Nat)=>[(15,True,.int .i64 i)]) (fun (i:Nat)=>qs.length-i) (0) ⟨⟨Aha _,fun j hj=>absurd hj (Ara j)⟩,G.refl _⟩ (Zb J (Zb J (Zb J (Zb J (Zq _))))) ?_)))))))))));rintro i u1 ⟨hI1,gl1⟩;have g:=g.trans gl1;replace E:=E.grow gl1;refine Zk (Zn (Ykb J J (Ze (kq (Zk (Um J (fun h2=>?_) (fun h2=>?_)))))));replace h2:i<qs.length:=by simp only [Zah] at h2;omega
 obtain ⟨f,fs,cs,hfe,hgo,hf⟩:=hF i O;have hv:=hR i _ (Aca (show i<vs.length by omega));rw [hfe] at hv;obtain ⟨b2,o2,rfl,hD,xs,hR2,hX⟩:=hks O;obtain ⟨p2,c2,hcell,_⟩:=Uyb hR2 hX (show i<t.kids.length by omega);rw [← Yj] at hcell;refine Yu (kq (Zk (Yw (Zk (Zn (Zu J (Jhb Jh J J O (Xn Zva J (by have:=Zcb g hv;simpa using this) (Xf J (Xf J (Ze (kq (Zk (Zn (Zu J (Xa Zg J (Xn Zi J (E.g0.at_ J) (?_))))))))))))))))));refine Zu J (Jhb Zd J J O (Xa Xd J (Xn Yf J ((hcell.grow g) 0 _ J) (Uv J (Zy hgo (Zc J) (aqc J aq0) J) (hf _ _ g) (fun w27 g27=>?_)))));have g:=g.trans g27;have gl1:=gl1.trans (g27);replace E:=E.grow g27;refine IF (fun h3=>?_) fun h3=>?_;(try simp only [bsimp] at h3);refine RTN ?_;refine ⟨Jzg ?_,g⟩;rw [eq_comm,kidsB,Jyg hle,Aua,List.all_eq_false];exact ⟨i,Aza.2 h2,by simpa using h3⟩;refine AU ?_;refine SK [15,2,13,14] ?_;refine Ze (fun a ha=>?_);refine ⟨i+1,ha,⟨⟨h2,fun j hj=>?_⟩,gl1⟩,O⟩;by_cases e:j=i;subst e;simpa using h3;exact hI1.2 j O;refine RTN ?_;refine ⟨Jzg ?_,g⟩;rw [eq_comm,kidsB,Jyg hle,Aua,Aoa];intro j hj;exact hI1.2 j (by have:=Aza.1 hj;simp only [Zbh] at h2;omega)
theorem Wnb(t:Nd)(p:Option Addr)(c:Nat)(D:Nat→Prop)(q:Int→Bool)(v:Ga)(w:Aa)(hk:Kd w D t.kids (.slice p t.kids.length c))(hF:FnV PP q v w)(hc:t.kids.length≤1000000):Ret PP 102 #[ndV t (.slice p t.kids.length c),.int .i64 0,v] w fun v w'=>v = .bool (everyB t q)∧G w w':=by
 have g:=G.refl w;obtain ⟨p',c',hpe,_,hks⟩:=hk;injection hpe with hpe _ hce;subst hpe hce;obtain ⟨f,fs,cs,rfl,hgo,hf⟩:=hF;refine WK 29 [0,1,2] Tryz.func102 ?_;refine BM fun _ w3 _ _ g E=>?_;refine Xf J (Ze (kq (Zk (Zk (Zn (Xa Zg J (Xn Zi J (E.g0.at_ J) (Xva Zd J (Zu J (Ykb J J (Ze (kq (Um J (fun h1=>?_) (fun h1=>?_))))))))))))))
 ·exfalso;simp only [Zah] at h1;omega
  done
 refine Yu (kq (Zk (Zk (Zn (Xa Zg J (Xn Zi J (E.g0.at_ J) (Zu J (Zz J (fun _=>Vnd Zd (Zc J) (Zc J)) (Xva Zd J (Zu J (Ze (kq (Yw (Qk (fun (i:Nat) u1=>(i≤t.kids.length∧∀ j,(h:j<t.kids.length)→j<i→q t.kids[j].kind=true)∧G w3 u1) [(2,True,_),(17,True,_),(18,True,_)] (fun (i:Nat)=>[(19,True,.int .i64 i)]) (fun (i:Nat)=>t.kids.length-i) (0) ⟨⟨Aha _,fun j _ hj=>absurd hj (Ara j)⟩,G.refl _⟩ (Zb J (Zb J (Zb J (Zb J (Zq _))))) ?_))))))))))))));rintro i u1 ⟨hI1,gl1⟩;have g:=g.trans gl1;replace E:=E.grow gl1;refine Zk (Zn (Ykb J J (Ze (kq (Zk (Um J (fun h2=>?_) (fun h2=>?_)))))))
 ·replace h2:i<t.kids.length:=by simp only [Zah] at h2;omega
  obtain ⟨b2,o2,rfl,hD,xs,hR2,hX⟩:=hks O;obtain ⟨p2,c2,hcell,_⟩:=Uyb hR2 hX h2;refine Yu (kq (Zk (Yw (Zk (Zn (Jhb Zd J J O (Va Zf J J (hcell.grow g) (AN fun _ _ ga _ g E=>?_))))))));have l8_gl1:=ga.ge gl1;have gl1:=gl1.trans (ga.g);refine AS fun _ ga _ g E=>?_;first|replace gl1:=Yq gl1 ga O|clear gl1|skip
  refine AU ?_;refine Uv J (Zy hgo (Zc J) (aqc J aq0) J) (hf _ _ g) (fun w26 g26=>?_);have g:=g.trans g26;have gl1:=gl1.trans (g26);replace E:=E.grow g26;refine IF (fun h3=>?_) fun h3=>?_
  ·(try simp only [bsimp] at h3)
   refine RTN ?_;refine ⟨Jzg ?_,g⟩;rw [eq_comm,everyB,List.all_eq_false];exact ⟨_,Apa h2,by simpa using h3⟩
  refine AU ?_;refine SK [19,2,17,18] ?_;refine Ze (fun a ha=>?_);refine ⟨i+1,ha,⟨⟨h2,fun j h hj=>?_⟩,gl1⟩,O⟩;by_cases e:j=i
  · subst e;simpa using h3
  · exact hI1.2 j h O
 refine RTN ?_;refine ⟨Jzg ?_,g⟩;rw [eq_comm,everyB,Aoa];intro x hx;obtain ⟨j,hj,rfl⟩:=Aqa hx;exact hI1.2 j hj (by simp only [Zbh] at h2;omega)
def commB(t:Nd):Bool:=bif anyK [9,16] t.kind then true
 else bif anyK [13,11] t.kind then decide (((t.kids.length:Int)-1)=0)&&decide ((Za t 0).kind=33)
 else bif decide (t.kind=12) then decide (((t.kids.length:Int)-1)=1)&&decide ((Za t 1).kind=33) else false
theorem Yr{w:Aa}{D:Nat→Prop}{t:Nd}{p:Option Addr}{c:Nat}(hk:Kd w D t.kids (.slice p t.kids.length c)){i:Nat}(h:i<t.kids.length):p=some ⟨pb p,po p,none⟩∧∃ p' c',RowAt w (pb p) (po p+i*9) (ndCells (Za t i) (.slice p' (Za t i).kids.length c'))∧Kd w D (Za t i).kids (.slice p' (Za t i).kids.length c'):=by
 obtain ⟨p',c',hpe,_,hks⟩:=hk;injection hpe with hpe _ hce;subst hpe hce;obtain ⟨b2,o2,rfl,hD,xs,hR2,hX⟩:=hks O;refine ⟨rfl,?_⟩;rw [Yj h];exact Uyb hR2 hX h
theorem Jff(t:Nd)(p:Option Addr)(c:Nat)(D:Nat→Prop)(w:Aa)(hk:Kd w D t.kids (.slice p t.kids.length c))(hc:t.kids.length≤1000000):Ret PP 108 #[ndV t (.slice p t.kids.length c)] w fun v w'=>v = .bool (commB t)∧G w w':=by
   have g := G.refl w
   refine WK 38 [0] Tryz.func108 ?_
   refine BM fun _ _ _ _ g E => ?_
   refine AU ?_
   refine' OR [1, 2, 3, 9] (fun hb1 => ?y1) (kq ?n1)
   case y1 =>
    refine AU ?_
    refine SK [10, 1, 2, 3, 9] ?_
    exact Ze knr
   case n1 =>
    refine IF (fun h2 => ?_) fun h2 => ?_
    · replace h2 : (anyK [9, 16] t.kind) = true := h2
      refine RTN ?_
      refine ⟨Jzg ?_, g⟩
      unfold commB; simp only [h2, Zfh, Zeh] <;> rfl
    replace h2 : (anyK [9, 16] t.kind) = false := h2
    refine AU ?_
    refine' OR [1, 2, 3, 9] (fun hb3 => ?y3) (kq ?n3)
    case y3 =>
     refine AU ?_
     refine SK [13, 1, 2, 3, 9] ?_
     exact Ze knr
    case n3 =>
     refine IF (fun h4 => ?_) fun h4 => ?_
     · replace h4 : (anyK [13, 11] t.kind) = true := h4
       refine Zk (Zn (Zu J (Yjb J J (Zu J (Zv J J J (fun _ => Zh Zg (Zc J)) (Wb J J J (Zt Zi (Yc J id) (fun _ => E.g0.at_ J)) (Zv J J J (fun _ => Xr Zd (Yc J id) Xv (fun hc => by have := Zch hc.2; omega) (fun hc => (Yr hk (i := 0) (by have := Zch hc.2; omega)).1)) (Zv J J J (fun _ => Zh Xd (Yc J id)) (Wb J J J (Zt Yf (Yc J id) (fun hc => by
 obtain ⟨_,p',c',hcell,_⟩:=Yr hk (i:=0) (by have:=Zch hc.2;omega)
 exact (hcell.grow g) 0 _ rfl)) (Zv rfl rfl rfl (fun _=>Wna (Yc rfl id) Xv) (Zz rfl (fun _=>Wn (Zc rfl) (Yc rfl id)) (Xf rfl (Ze (kq (We (Vz rfl rfl ?_))))))))))))))))
       refine ⟨Jzg ?_,g⟩
       unfold commB;simp only [h2,h4,Zfh,Zeh] <;> rfl
     replace h4:(anyK [13,11] t.kind)=false:=h4
     refine IF (fun h5=>?_) fun h5=>?_
     · (try simp only [bsimp] at h5)
       refine Zk (Zn (Zu J (Yjb J J (Zu J (Zv J J J (fun _=>Zh Zg (Zc J)) (Wb J J J (Zt Zi (Yc J id) (fun _=>E.g0.at_ J)) (Zv J J J (fun _=>Xr Zd (Yc J id) Xv (fun hc=>by have:=Zch hc.2;omega) (fun hc=>(Yr hk (i:=1) (by have:=Zch hc.2;omega)).1)) (Zv J J J (fun _=>Zh Xd (Yc J id)) (Wb J J J (Zt Yf (Yc J id) (fun hc=>by
 obtain ⟨_,p',c',hcell,_⟩:=Yr hk (i:=1) (by have:=Zch hc.2;omega)
 exact (hcell.grow g) 0 _ rfl)) (Zv rfl rfl rfl (fun _=>Wna (Yc rfl id) Xv) (Zz rfl (fun _=>Wn (Zc rfl) (Yc rfl id)) (Xf rfl (Ze (kq (We (Vz rfl rfl ?_))))))))))))))))
       refine ⟨Jzg ?_,g⟩
       unfold commB;simp only [h2,h4,h5,Zfh,Zeh] <;> rfl
     refine RTN ?_
     refine ⟨Jzg ?_,g⟩
     unfold commB;simp only [h2,h4,h5,Zfh,Zeh] <;> rfl
def textB'(t:Nd):Bool:=bif anyK [2,3,4,6,11,28,27,34,8] t.kind then nameB t.text
 else bif decide (t.kind=31) then decide (t.text=[45]) || decide (t.text=[33])
 else bif decide (t.kind=32) then anyS Vra t.text
 else bif decide (t.kind=7) then Vt t.text
 else decide (t.text=[])
theorem Yef(t:Nd)(p:Option Addr)(c:Nat)(w:Aa)(hL:Laid w)(hb3:10≤w.heap.size):Ret PP 83 #[ndV t (.slice p t.kids.length c)] w fun v w'=>v = .bool (textB' t)∧G w w':=by
 have g:=G.refl w;refine WK 64 [0] Tryz.func83 ?_;refine BM fun _ _ _ _ g E=>?_;refine AU ?_;refine' OR [1,2,4] (fun hb1=>?y1) (kq ?n1)
 case y1 =>
  refine AU ?_;refine' OR [1,2,4] (fun hb2=>?y2) knr
  case y2 =>
   refine AU ?_;refine' OR [1,2,4] (fun hb3=>?y3) knr
   case y3 =>
    refine AU ?_;refine' OR [1,2,4] (fun hb4=>?y4) knr
    case y4 =>
     refine AU ?_;refine' OR [1,2,4] (fun hb5=>?y5) knr
     case y5 =>
      refine AU ?_;refine' OR [1,2,4] (fun hb6=>?y6) knr
      case y6 =>
       refine AU ?_;refine' OR [1,2,4] (fun hb7=>?y7) knr
       case y7 =>
        refine AU ?_;refine' OR [1,2,4] (fun hb8=>?y8) knr
        case y8 =>
         refine AU ?_;refine SK [5,1,2,4] ?_;exact Ze knr
 case n1 =>
  refine IF (fun h9=>?_) fun h9=>?_;replace h9:(anyK [2,3,4,6,11,28,27,34,8] t.kind)=true:=h9;refine AU ?_;refine CP (Jvd _ _ (hL.grow g) (by have:=g.size;omega)) (fun w17 g17=>?_);have g:=g.trans g17;replace E:=E.grow g17;refine RTN ?_;refine ⟨Jzg ?_,g⟩;unfold textB';simp only [Vra,Vt,typeNames,anyS,h9,Zfh,Zeh] <;> rfl
  replace h9:(anyK [2,3,4,6,11,28,27,34,8] t.kind)=false:=h9;refine IF (fun h10=>?_) fun h10=>?_;(try simp only [bsimp] at h10);refine RTN ?_;refine ⟨Jzg ?_,g⟩;unfold textB';simp only [Vra,Vt,typeNames,anyS,h9,h10,Zfh,Zeh] <;> rfl
  refine IF (fun h11=>?_) fun h11=>?_;(try simp only [bsimp] at h11);refine AU ?_;refine' OR [1,2] (fun hb12=>?y12) (kq ?n12)
  case y12 =>
   refine AU ?_;refine' OR [1,2] (fun hb13=>?y13) knr
   case y13 =>
    refine AU ?_;refine' OR [1,2] (fun hb14=>?y14) knr
    case y14 =>
     refine AU ?_;refine' OR [1,2] (fun hb15=>?y15) knr
     case y15 =>
      refine AU ?_;refine' OR [1,2] (fun hb16=>?y16) knr
      case y16 =>
       refine AU ?_;refine' OR [1,2] (fun hb17=>?y17) knr
       case y17 =>
        refine AU ?_;refine' OR [1,2] (fun hb18=>?y18) knr
        case y18 =>
         refine AU ?_;refine' OR [1,2] (fun hb19=>?y19) knr
         case y19 =>
          refine AU ?_;refine' OR [1,2] (fun hb20=>?y20) knr
          case y20 =>
           refine AU ?_;refine' OR [1,2] (fun hb21=>?y21) knr
           case y21 =>
            refine AU ?_;refine' OR [1,2] (fun hb22=>?y22) knr
            case y22 =>
             refine AU ?_;refine' OR [1,2] (fun hb23=>?y23) knr
             case y23 =>
              refine AU ?_;refine SK [32,1,2] ?_;exact Ze knr
  case n12 =>
   refine IF (fun h24=>?_) fun h24=>?_;(try simp only [bsimp] at h24);refine RTN ?_;refine ⟨Jzg ?_,g⟩;unfold textB';simp only [Vra,Vt,typeNames,anyS,h9,h10,h11,h24,Zfh,Zeh] <;> rfl
   refine RTN ?_;refine ⟨Jzg ?_,g⟩;unfold textB';simp only [Vra,Vt,typeNames,anyS,h9,h10,h11,h24,Zfh,Zeh] <;> rfl
  refine IF (fun h25=>?_) fun h25=>?_;(try simp only [bsimp] at h25);refine AU ?_;refine' OR [1,2] (fun hb26=>?y26) (kq ?n26)
  case y26 =>
   refine AU ?_;refine' OR [1,2] (fun hb27=>?y27) knr
   case y27 =>
    refine AU ?_;refine' OR [1,2] (fun hb28=>?y28) knr
    case y28 =>
     refine AU ?_;refine' OR [1,2] (fun hb29=>?y29) knr
     case y29 =>
      refine AU ?_;refine' OR [1,2] (fun hb30=>?y30) knr
      case y30 =>
       refine AU ?_;refine' OR [1,2] (fun hb31=>?y31) knr
       case y31 =>
        refine AU ?_;refine' OR [1,2] (fun hb32=>?y32) knr
        case y32 =>
         refine AU ?_;refine' OR [1,2] (fun hb33=>?y33) knr
         case y33 =>
          refine AU ?_;refine' OR [1,2] (fun hb34=>?y34) knr
          case y34 =>
           refine AU ?_;refine SK [50,1,2] ?_;exact Ze knr
  case n26 =>
   refine IF (fun h35=>?_) fun h35=>?_;(try simp only [bsimp] at h35);refine RTN ?_;refine ⟨Jzg ?_,g⟩;unfold textB';simp only [Vra,Vt,typeNames,anyS,h9,h10,h11,h25,h35,Zfh,Zeh] <;> rfl
   refine RTN ?_;refine ⟨Jzg ?_,g⟩;unfold textB';simp only [Vra,Vt,typeNames,anyS,h9,h10,h11,h25,h35,Zfh,Zeh] <;> rfl
  refine RTN ?_;refine ⟨Jzg ?_,g⟩;unfold textB';simp only [Vra,Vt,typeNames,anyS,h9,h10,h11,h25,Zfh,Zeh] <;> rfl
end Go.Rk
