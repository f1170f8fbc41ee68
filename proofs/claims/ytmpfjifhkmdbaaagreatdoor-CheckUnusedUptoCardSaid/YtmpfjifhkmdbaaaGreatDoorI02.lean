/- Merged texts. Conditions: each text's own. -/
import Derived.Test.YtmpfjifhkmdbaaaGreatDoorI01
import Derived.Shelf.LaysC
import Derived.Shelf.Strconv.ParseIntPublic10
import Derived.KernelRfl
set_option linter.unusedSimpArgs false
set_option linter.unusedVariables false
set_option maxHeartbeats 16000000
set_option maxRecDepth 100000
open Bool renaming and_eq_true_iff→Aba,not_true→Afa,not_false→Aga,or_false→Aja,and_eq_true→Aka,or_eq_false_iff→Ata,true_and→Ava,or_eq_true→Bga
open Go renaming World→Aa,TypeId→Ba,PanicEntry→Da,Operand→Ea,Program→Fa,Value→Ga
open Go.Result renaming andThen_ok→Ha
open Go.Value renaming slice→Ia
open List renaming getElem?_eq_getElem→Aca,getD_eq_getElem?_getD→Aea,length_append→Ala,length_cons→Ama,all_eq_true→Ana,any_cons→Aoa,any_nil→Apa,flatMap_cons→Aqa,getElem_mem→Ara,getElem_of_mem→Asa,mem_cons_self→Awa,length_drop→Axa,forall_mem_cons→Aya,take_length→Aza,mem_range→Baa,length_take→Bba,append_nil→Bca,sum_append→Bda,take_add_one→Bea,all_eq_false→Bfa,drop_of_length_le→Bia,drop_eq_getElem_cons→Bja,mem_cons_of_mem→Bka,take_succ_cons→Bla,find?_eq_some_iff_getElem→Bma,find?_eq_none→Bna,length_eq_zero_iff→Bpa,mem_drop_iff_getElem→Bqa,take_of_length_le→Bra,length_flatMap→Bsa,map_congr_left→Bta,flatMap_append→Bua,forall_mem_nil→Bva
open Nat renaming beq→Aaa,le_refl→Ada,zero_le→Aha,blt→Aia,not_lt_zero→Aua,add_comm→Bha,eq_of_beq_eq_true→Boa
namespace Go.Proofs
end Go.Proofs
namespace Go.Rk
open Go.Proofs
open Go Go.RowKit
 class FOF (s j:Nat) (o:outParam Nat):Prop where h:Yp PP s j=some o
 class TY1 (t:Nat):Prop where h:Va PP t=true
 class TYA (t:Nat) (z:outParam Nat):Prop where h:tyAgg PP t=some z
 class TSZ (t:Nat) (z:outParam Nat):Prop where h:tySize PP t=some z
 class TZE (t:Nat) (z:outParam Ga):Prop where h:zeroOf PP t=some z
 class TST (t:Nat):Prop where h:Vka PP t=true
 class TFL (t:Nat) (z:outParam (List Nat)):Prop where h:Zgc PP t=some z
 class TUB (t:Nat):Prop where h:PP.underlying t=some .bool
 class TPL (t:Nat) (z:outParam (List (Nat×Nat))):Prop where h:Wh PP t=some z
 class TYE (t:Nat) (e z b:outParam Nat):Prop where h:tyElem PP t=some (e,z,b)
instance:FOF 24 0 0:=⟨Vyb⟩
instance:FOF 24 1 1:=⟨Vzb⟩
instance:FOF 26 0 0:=⟨Xi⟩
instance:FOF 26 1 1:=⟨Xe⟩
instance:FOF 26 2 2:=⟨Ur⟩
instance:FOF 26 3 3:=⟨Xz⟩
instance:FOF 26 4 4:=⟨Zh⟩
instance:FOF 26 5 5:=⟨Yk⟩
instance:FOF 26 6 7:=⟨Zba⟩
instance:FOF 26 7 8:=⟨Jka⟩
instance:FOF 48 0 0:=⟨Uxa⟩
instance:FOF 48 1 1:=⟨Uya⟩
instance:FOF 59 0 0:=⟨Qaa⟩
instance:FOF 59 1 9:=⟨Js⟩
instance:FOF 59 2 10:=⟨Ywa⟩
instance:FOF 59 3 11:=⟨Qba⟩
instance:FOF 59 4 12:=⟨Qh⟩
instance:FOF 59 5 13:=⟨Xf⟩
instance:FOF 59 6 14:=⟨Jt⟩
instance:FOF 59 7 15:=⟨Vx⟩
instance:FOF 61 0 0:=⟨Vna⟩
instance:FOF 61 1 1:=⟨Qz⟩
instance:FOF 61 2 2:=⟨Ja⟩
instance:FOF 67 0 0:=⟨Wya⟩
instance:FOF 67 1 9:=⟨Wza⟩
instance:FOF 67 2 10:=⟨Vaa⟩
instance:FOF 67 3 11:=⟨Vba⟩
instance:FOF 67 4 12:=⟨Vca⟩
instance:FOF 67 5 13:=⟨Vda⟩
instance:FOF 67 6 15:=⟨Vea⟩
instance:FOF 67 7 16:=⟨Vfa⟩
instance:FOF 75 0 0:=⟨Vza⟩
instance:FOF 75 1 1:=⟨Uaa⟩
instance:FOF 75 2 2:=⟨Uba⟩
instance:FOF 75 3 3:=⟨Uca⟩
instance:FOF 84 0 0:=⟨Voa⟩
instance:FOF 84 1 1:=⟨Vpa⟩
instance:FOF 84 2 3:=⟨Vqa⟩
instance:FOF 84 3 4:=⟨Vra⟩
instance:FOF 94 0 0:=⟨Wrc⟩
instance:FOF 94 1 1:=⟨Wsc⟩
instance:FOF 94 2 2:=⟨Wtc⟩
instance:FOF 96 0 0:=⟨Wja⟩
instance:FOF 96 1 1:=⟨Wka⟩
instance:FOF 96 2 3:=⟨Wla⟩
instance:FOF 96 3 4:=⟨Wma⟩
instance:FOF 96 4 5:=⟨Wna⟩
instance:FOF 127 0 0:=⟨Wq⟩
instance:FOF 127 1 1:=⟨Ys⟩
instance:FOF 127 2 2:=⟨Qb⟩
instance:FOF 127 3 3:=⟨Xja⟩
instance:FOF 134 0 0:=⟨Xlb⟩
instance:FOF 134 1 1:=⟨Xmb⟩
instance:FOF 162 0 0:=⟨Yrb⟩
instance:FOF 162 1 1:=⟨Ysb⟩
instance:FOF 162 2 2:=⟨Ytb⟩
instance:TY1 1:=⟨Qve⟩
instance:TY1 2:=⟨Vde⟩
instance:TY1 3:=⟨Yf⟩
instance:TY1 4:=⟨Qye⟩
instance:TY1 5:=⟨Vee⟩
instance:TY1 9:=⟨Yy⟩
instance:TY1 20:=⟨Qcc⟩
instance:TY1 22:=⟨Zg⟩
instance:TY1 30:=⟨Yla⟩
instance:TY1 50:=⟨Vjb⟩
instance:TY1 51:=⟨Qy⟩
instance:TY1 52:=⟨Ji⟩
instance:TY1 53:=⟨Uza⟩
instance:TY1 54:=⟨Wu⟩
instance:TY1 55:=⟨Yo⟩
instance:TY1 56:=⟨Zwb⟩
instance:TY1 57:=⟨Vw⟩
instance:TY1 64:=⟨Wha⟩
instance:TY1 65:=⟨Xpa⟩
instance:TY1 70:=⟨Un⟩
instance:TY1 73:=⟨Vga⟩
instance:TY1 79:=⟨Zxb⟩
instance:TY1 82:=⟨Vh⟩
instance:TY1 102:=⟨Vkb⟩
instance:TY1 103:=⟨Zka⟩
instance:TY1 109:=⟨Vlb⟩
instance:TY1 115:=⟨Xkb⟩
instance:TY1 120:=⟨Qmd⟩
instance:TY1 123:=⟨Uyb⟩
instance:TY1 130:=⟨Zoc⟩
instance:TY1 146:=⟨Vke⟩
instance:TY1 152:=⟨Jdb⟩
instance:TY1 156:=⟨Zyb⟩
instance:TY1 160:=⟨Yad⟩
instance:TY1 164:=⟨Wnd⟩
instance:TYA 24 2:=⟨Zm⟩
instance:TYA 26 9:=⟨Zf⟩
instance:TYA 48 2:=⟨Qub⟩
instance:TYA 59 16:=⟨Qyb⟩
instance:TYA 61 4:=⟨Qca⟩
instance:TYA 67 17:=⟨Vwa⟩
instance:TYA 75 4:=⟨Qga⟩
instance:TYA 84 5:=⟨Ju⟩
instance:TYA 94 3:=⟨Uab⟩
instance:TYA 96 6:=⟨Vha⟩
instance:TYA 108 13:=⟨Ubb⟩
instance:TYA 127 4:=⟨Znc⟩
instance:TYA 134 3:=⟨Qdc⟩
instance:TYA 149 27:=⟨Ucb⟩
instance:TYA 162 3:=⟨Xnb⟩
instance:TSZ 1 1:=⟨Vcf⟩
instance:TSZ 2 1:=⟨Qwe⟩
instance:TSZ 3 1:=⟨Wta⟩
instance:TSZ 4 1:=⟨Vef⟩
instance:TSZ 5 1:=⟨Qze⟩
instance:TSZ 9 1:=⟨Vfe⟩
instance:TSZ 20 1:=⟨Zqd⟩
instance:TSZ 22 1:=⟨Vb⟩
instance:TSZ 24 2:=⟨Xv⟩
instance:TSZ 26 9:=⟨Yj⟩
instance:TSZ 30 1:=⟨Vva⟩
instance:TSZ 48 2:=⟨Zkc⟩
instance:TSZ 50 1:=⟨Uqb⟩
instance:TSZ 51 1:=⟨Usb⟩
instance:TSZ 52 1:=⟨Zub⟩
instance:TSZ 53 1:=⟨Qwb⟩
instance:TSZ 54 1:=⟨Wua⟩
instance:TSZ 55 1:=⟨Vk⟩
instance:TSZ 56 1:=⟨Wrb⟩
instance:TSZ 57 1:=⟨Uw⟩
instance:TSZ 59 16:=⟨Zlc⟩
instance:TSZ 61 4:=⟨Zja⟩
instance:TSZ 64 1:=⟨Wwa⟩
instance:TSZ 65 1:=⟨Xva⟩
instance:TSZ 67 17:=⟨Qda⟩
instance:TSZ 70 1:=⟨Yqa⟩
instance:TSZ 73 1:=⟨Vxa⟩
instance:TSZ 75 4:=⟨Qpa⟩
instance:TSZ 79 1:=⟨Ynb⟩
instance:TSZ 82 1:=⟨Wia⟩
instance:TSZ 84 5:=⟨Qzb⟩
instance:TSZ 94 3:=⟨Zsd⟩
instance:TSZ 96 6:=⟨Uea⟩
instance:TSZ 102 1:=⟨Uub⟩
instance:TSZ 103 1:=⟨Zmc⟩
instance:TSZ 108 13:=⟨Ztd⟩
instance:TSZ 109 1:=⟨Uwb⟩
instance:TSZ 115 1:=⟨Vmb⟩
instance:TSZ 120 1:=⟨Vie⟩
instance:TSZ 123 1:=⟨Jab⟩
instance:TSZ 127 4:=⟨Xmc⟩
instance:TSZ 130 1:=⟨Xpc⟩
instance:TSZ 134 3:=⟨Zwd⟩
instance:TSZ 146 1:=⟨Jce⟩
instance:TSZ 149 27:=⟨Zxd⟩
instance:TSZ 152 1:=⟨Zpc⟩
instance:TSZ 156 1:=⟨Ypb⟩
instance:TSZ 160 1:=⟨Wkd⟩
instance:TSZ 162 3:=⟨Vob⟩
instance:TSZ 164 1:=⟨Qnd⟩
instance:TZE 1 (.nilFunc):=⟨Vdf⟩
instance:TZE 2 (.int .i64 0):=⟨Qxe⟩
instance:TZE 3 (.int .i64 0):=⟨Zjc⟩
instance:TZE 4 (.bool false):=⟨Zpd⟩
instance:TZE 5 (.int .u8 0):=⟨Jae⟩
instance:TZE 9 (.string ⟨#[]⟩):=⟨Vge⟩
instance:TZE 20 (.nilIface):=⟨Zrd⟩
instance:TZE 22 (.slice none 0 0):=⟨Wpc⟩
instance:TZE 24 (.agg #[.int .i64 0,.string ⟨#[]⟩]):=⟨Xk⟩
instance:TZE 26 (.agg #[.int .i64 0,.string ⟨#[]⟩,.int .i64 0,.int .i64 0,.slice none 0 0,.int .i64 0,.string ⟨#[]⟩,.int .i64 0,.int .i64 0]):=⟨Zs⟩
instance:TZE 30 (.int .i64 0):=⟨Qtb⟩
instance:TZE 48 (.agg #[.int .i64 0,.int .i64 0]):=⟨Jsa⟩
instance:TZE 50 (.pointer none):=⟨Urb⟩
instance:TZE 51 (.map none):=⟨Utb⟩
instance:TZE 52 (.map none):=⟨Zvb⟩
instance:TZE 53 (.map none):=⟨Qxb⟩
instance:TZE 54 (.map none):=⟨Wva⟩
instance:TZE 55 (.slice none 0 0):=⟨Jua⟩
instance:TZE 56 (.slice none 0 0):=⟨Vhe⟩
instance:TZE 57 (.slice none 0 0):=⟨Wqc⟩
instance:TZE 59 (.agg #[.int .i64 0,.string ⟨#[]⟩,.int .i64 0,.int .i64 0,.slice none 0 0,.int .i64 0,.string ⟨#[]⟩,.int .i64 0,.int .i64 0,.map none,.map none,.map none,.map none,.slice none 0 0,.slice none 0 0,.slice none 0 0]):=⟨Jva⟩
instance:TZE 61 (.agg #[.int .i64 0,.slice none 0 0,.int .i64 0,.string ⟨#[]⟩]):=⟨Uf⟩
instance:TZE 64 (.pointer none):=⟨Wxa⟩
instance:TZE 65 (.slice none 0 0):=⟨Xwa⟩
instance:TZE 67 (.agg #[.int .i64 0,.string ⟨#[]⟩,.int .i64 0,.int .i64 0,.slice none 0 0,.int .i64 0,.string ⟨#[]⟩,.int .i64 0,.int .i64 0,.slice none 0 0,.int .i64 0,.int .i64 0,.slice none 0 0,.int .i64 0,.string ⟨#[]⟩,.int .i64 0,.int .i64 0]):=⟨Qea⟩
instance:TZE 70 (.slice none 0 0):=⟨Xlc⟩
instance:TZE 73 (.pointer none):=⟨Vya⟩
instance:TZE 75 (.agg #[.slice none 0 0,.int .i64 0,.int .i64 0,.bool false]):=⟨Qqa⟩
instance:TZE 79 (.nilFunc):=⟨Yob⟩
instance:TZE 82 (.slice none 0 0):=⟨Zua⟩
instance:TZE 84 (.agg #[.string ⟨#[]⟩,.int .i64 0,.string ⟨#[]⟩,.int .i64 0,.int .i64 0]):=⟨Qq⟩
instance:TZE 94 (.agg #[.int .i64 0,.string ⟨#[]⟩,.int .i64 0]):=⟨Qr⟩
instance:TZE 96 (.agg #[.string ⟨#[]⟩,.int .i64 0,.string ⟨#[]⟩,.int .i64 0,.int .i64 0,.int .i64 0]):=⟨Ufa⟩
instance:TZE 102 (.nilFunc):=⟨Uvb⟩
instance:TZE 103 (.nilFunc):=⟨Jxa⟩
instance:TZE 108 (.agg #[.string ⟨#[]⟩,.string ⟨#[]⟩,.string ⟨#[]⟩,.string ⟨#[]⟩,.string ⟨#[]⟩,.string ⟨#[]⟩,.string ⟨#[]⟩,.string ⟨#[]⟩,.string ⟨#[]⟩,.string ⟨#[]⟩,.string ⟨#[]⟩,.string ⟨#[]⟩,.string ⟨#[]⟩]):=⟨Zud⟩
instance:TZE 109 (.nilFunc):=⟨Uxb⟩
instance:TZE 115 (.slice none 0 0):=⟨Vnb⟩
instance:TZE 120 (.int .u64 0):=⟨Vje⟩
instance:TZE 123 (.pointer none):=⟨Jbb⟩
instance:TZE 127 (.agg #[.string ⟨#[]⟩,.int .i64 0,.slice none 0 0,.slice none 0 0]):=⟨Xnc⟩
instance:TZE 130 (.slice none 0 0):=⟨Xqc⟩
instance:TZE 134 (.agg #[.string ⟨#[]⟩,.int .i64 0,.string ⟨#[]⟩]):=⟨Uha⟩
instance:TZE 146 (.nilIface):=⟨Jde⟩
instance:TZE 149 (.agg #[.string ⟨#[]⟩,.string ⟨#[]⟩,.string ⟨#[]⟩,.string ⟨#[]⟩,.string ⟨#[]⟩,.string ⟨#[]⟩,.string ⟨#[]⟩,.string ⟨#[]⟩,.string ⟨#[]⟩,.string ⟨#[]⟩,.string ⟨#[]⟩,.string ⟨#[]⟩,.string ⟨#[]⟩,.string ⟨#[]⟩,.string ⟨#[]⟩,.string ⟨#[]⟩,.string ⟨#[]⟩,.string ⟨#[]⟩,.string ⟨#[]⟩,.string ⟨#[]⟩,.string ⟨#[]⟩,.string ⟨#[]⟩,.string ⟨#[]⟩,.string ⟨#[]⟩,.string ⟨#[]⟩,.string ⟨#[]⟩,.string ⟨#[]⟩]):=⟨Zyd⟩
instance:TZE 152 (.int .i64 0):=⟨Zqc⟩
instance:TZE 156 (.pointer none):=⟨Yqb⟩
instance:TZE 160 (.slice none 0 0):=⟨Wld⟩
instance:TZE 162 (.agg #[.string ⟨#[]⟩,.string ⟨#[]⟩,.nilIface]):=⟨Vpb⟩
instance:TZE 164 (.pointer none):=⟨Qod⟩
instance:TYE 22 26 9 104:=⟨Zc⟩
instance:TYE 55 82 1 24:=⟨Yt⟩
instance:TYE 56 3 1 8:=⟨Zca⟩
instance:TYE 57 24 2 24:=⟨Wf⟩
instance:TYE 65 96 6 64:=⟨Xxa⟩
instance:TYE 70 94 3 32:=⟨Vc⟩
instance:TYE 82 84 5 56:=⟨Wv⟩
instance:TYE 115 103 1 8:=⟨Jb⟩
instance:TYE 130 134 3 40:=⟨Yjb⟩
instance:TYE 160 5 1 1:=⟨Wmd⟩
instance:TST 9:=⟨Vl⟩
instance:TFL 24 [0,1]:=⟨Wo⟩
instance:TUB 4:=⟨Wid⟩
instance:TPL 24 [(0,1),(1,1)]:=⟨Vm⟩
instance:TPL 26 [(0,1),(1,1),(2,1),(3,1),(4,1),(5,2),(7,1),(8,1)]:=⟨Zta⟩
instance:TPL 48 [(0,1),(1,1)]:=⟨Jta⟩
instance:TPL 59 [(0,9),(9,1),(10,1),(11,1),(12,1),(13,1),(14,1),(15,1)]:=⟨Jwa⟩
instance:TPL 61 [(0,1),(1,1),(2,2)]:=⟨Xha⟩
instance:TPL 67 [(0,9),(9,1),(10,1),(11,1),(12,1),(13,2),(15,1),(16,1)]:=⟨Qfa⟩
instance:TPL 75 [(0,1),(1,1),(2,1),(3,1)]:=⟨Qra⟩
instance:TPL 84 [(0,1),(1,2),(3,1),(4,1)]:=⟨Xia⟩
instance:TPL 94 [(0,1),(1,1),(2,1)]:=⟨Uda⟩
instance:TPL 96 [(0,1),(1,2),(3,1),(4,1),(5,1)]:=⟨Uga⟩
instance:TPL 127 [(0,1),(1,1),(2,1),(3,1)]:=⟨Xoc⟩
instance:TPL 134 [(0,1),(1,2)]:=⟨Jcb⟩
instance:TPL 162 [(0,1),(1,1),(2,1)]:=⟨Vqb⟩
theorem CL{Z:List Da→Act→Aa→Prop}{ops:List Oper}{cl:List Nat}{lv:List Bool}{W0:Aa}{n:Nat}{K:Act→Aa→Prop}{k:Nat}{rest:List Oper}{σ:List Ent}{w:Aa}{d:Nat}{ty:Ba}{pos:String}{after:Array Edge}{f:FuncId}{xs:List Ea}{vs:List Ga}{ats:Array Ba}{R:Ga→Aa→Prop}(hC:Ret PP f vs.toArray w R)
  (h:∀ v w',R v w'→(clOf cl k=1→G w w')∧SR PP Z ops cl lv W0 n K (k+1) rest ((d,True,v) :: σ) w') (hx:Yta n σ True xs vs:=by repeat first|exact aq0|refine aqc rfl ?_)
  (hb:(!Aaa (clOf cl k) 0 && !Aaa (clOf cl k) 3&&Aia d n)=true:=by exact rfl) (hf:goFn PP f=true:=by kernel_rfl) :
  SR PP Z ops cl lv W0 n K k (⟨some d,.call { callee:=.value (.func f),args:=xs.toArray,argTypes:=ats },ty,pos,after,none⟩::rest) σ w:=Xm hb (Zu hf Xy hx Os) hC h
theorem RC{p A B q:Prop}(h:A→B→q)(k:(A→B→q)→p:=by exact fun h=>⟨(by first|exact nw1|exact fun _=>ga),(by first|exact h (g.trans ga) (E.gt ga rfl)|exact h (gtg g ga) (E.grow ga)|exact h (g.trans ga) (E.grow ga))⟩):p:=k h
theorem EX{p:Prop}(h:p:=by first
  | exact Zd rfl
  | exact Xa
  | exact Zp rfl id
  | exact Zp rfl (fun h=>h.1)
  | exact Jea
  | exact Xy
  | exact Zp rfl (fun h=>h.1.1)):p:=h
theorem CE{p:Prop}(h:p:=by first
  | exact E.g0.at_ rfl
  | exact E.g1.at_ rfl
  | exact E.g2.at_ rfl
  | exact E.g3.at_ rfl
  | exact E.g4.at_ rfl
  | exact E.g5.at_ rfl
  | exact E.g6.at_ rfl
  | exact E.g7.at_ rfl
  | exact E.g8.at_ rfl
  | exact E.g9.at_ rfl
  | exact E.g10.at_ rfl
  | exact E.g11.at_ rfl
  | exact E.g12.at_ rfl
  | exact h.B.at_ rfl
  | exact hB.at_ rfl
  | exact (hs.grow g).B.at_ rfl
  | exact hcell.one (i:=0) rfl
  | exact hcell.one (i:=1) rfl
  | exact hcell.one (i:=2) rfl
  | exact hcell.one (i:=3) rfl
  | exact hcell.one (i:=4) rfl
  | exact hcell.one (i:=5) rfl
  | exact hcell.one (i:=6) rfl
  | exact hcell.one (i:=7) rfl
  | exact hcell.one (i:=8) rfl
  | exact by assumption):p:=h
theorem ROW{p:Prop}(h:p:=by first
  | exact E.g0.row
  | exact E.g1.row
  | exact E.g2.row
  | exact E.g3.row
  | exact E.g4.row
  | exact E.g5.row
  | exact E.g6.row
  | exact E.g7.row
  | exact E.g8.row
  | exact E.g9.row
  | exact E.g10.row
  | exact E.g11.row
  | exact E.g12.row
  | exact hcell
  | exact hcell.grow g
  | exact by assumption
  | exact h.B.row.part 13 2
  | exact hcell.part 5 2
  | exact E.g0.row.part 5 2
  | exact E.g1.row.part 5 2
  | exact E.g2.row.part 5 2
  | exact E.g3.row.part 5 2
  | exact E.g4.row.part 5 2
  | exact E.g5.row.part 5 2
  | exact E.g6.row.part 5 2
  | exact E.g7.row.part 5 2
  | exact E.g8.row.part 5 2
  | exact E.g9.row.part 5 2
  | exact E.g10.row.part 5 2
  | exact E.g11.row.part 5 2
  | exact E.g12.row.part 5 2):p:=h
theorem PU{p:Prop}(h:p:=by first
  | (apply Zw;exact EX)
  | (apply Zi;exact FOF.h;exact EX)
  | (apply Jc;exact EX)
  | (apply Zoa;exact EX;exact EX)
  | (apply Yn;exact EX;exact EX)
  | (apply Xd;exact EX;exact EX)
  | (apply Yka;exact EX;exact EX)
  | (apply Yvb;exact EX)
  | (apply Zna;exact EX)
  | (apply Ysa;exact TYE.h;exact EX)
  | (apply Ulb;exact EX;exact EX)
  | (apply Qjb;exact TST.h;exact EX)
  | (apply Uta;exact EX;exact rfl)
  | (apply Qle;exact EX;exact EX)
  | (apply Qkc;exact EX;exact EX)
  | (apply Qlc;exact EX;exact EX)
  | (apply Qmc;exact EX;exact EX)
  | (apply Yv;exact TYE.h;exact EX;exact EX;exact (fun _=>by omega);exact fun _=>hpe)
  | (apply Ukb;exact EX;exact EX;exact (fun _=>by omega))
  | (apply Xca;exact EX;exact EX;exact (fun _=>by omega))
  | (apply Qx;exact TFL.h;exact EX;exact EX;exact rfl)
  | (apply Wgc;exact EX;exact EX)
  | (apply Zmg;exact TUB.h;exact EX;exact EX)
  | (apply Qsa;exact TST.h;exact EX;exact EX;exact (fun _=>by omega))
  | (apply Zhd;exact TFL.h;exact EX;exact EX;exact rfl)
  | (apply Zdc;exact TST.h;exact EX;exact EX;exact EX;exact (fun _=>by omega))
  | (apply Zec;exact TST.h;exact EX;exact EX;exact (fun _=>by omega))
  | (apply Xta;exact TYE.h;exact EX;exact EX;exact (fun _=>by omega))):p:=h
theorem LD{p:Prop}(h:p:=by first
  | (apply Zq;exact TY1.h;exact EX;exact fun _=>CE)
  | (apply Zo;exact TYA.h;exact EX;rotate_left;exact fun _=>ROW;exact rfl)):p:=h
def Jgb(σ:List Ent):List Nat→Option (List Ent)
 | []=>some []
 | k::ks=>match look σ k with
  | none=>none
  | some (c,v)=>match Jgb σ ks with
   | none=>none
   | some τ=>some ((k,c,v) :: τ)
theorem Xya{σ:List Ent}:∀ {ks:List Nat} {τ:List Ent},Jgb σ ks=some τ→Sub τ σ
 | [],τ,h=>by injection h with h;subst h;exact Zr _
 | k::ks,τ,h=>by
  unfold Jgb at h;split at h;cases h;rename_i c v hl;split at h;cases h;rename_i τ' hk;injection h with h;subst h;exact Za hl (Xya hk)
section
variable {P:Fa} {Z:List Da→Act→Aa→Prop} {ops:List Oper} {cl:List Nat} {lv:List Bool} {W0:Aa} {n:Nat} {K:Act→Aa→Prop} {k:Nat} {rest:List Oper} {σ τ:List Ent} {w:Aa} {d:Nat} {op:Op} {ty:Ba} {pos:String} {after:Array Edge} {v:Ga} {N T:Act→Aa→Prop} {X:List (Nat×(Act→Aa→Prop))}
theorem SK(ks:List Nat)(h:SR P Z ops cl lv W0 n K k rest τ w)(hk:Jgb σ ks=some τ:=by exact rfl):SR P Z ops cl lv W0 n K k rest σ w:=Wx τ (Xya hk) h
theorem Y2{B:List Da→Aa→Prop}{f:FuncId}{x1 x2:Ea}{v1 v2:Ga}{ats:Array Ba}{R:Ga→Aa→Prop}{Rp:List Da→Aa→Prop}(hb:(!Aaa (clOf cl k) 0 && !Aaa (clOf cl k) 3&&Aia d n)=true)(hf:goFn P f=true)(h1:opv σ x1=some (True,v1))(h2:opv σ x2=some (True,v2))(hC:RetP P f #[v1,v2] w R Rp)(hz:∀ ch w',Rp ch w'→B ch w')
  (h:∀ v w',R v w'→(clOf cl k=1→G w w')∧SR P (ZA B) ops cl lv W0 n K (k+1) rest ((d,True,v) :: σ) w'):SR P (ZA B) ops cl lv W0 n K k (⟨some d,.call { callee:=.value (.func f),args:=#[x1,x2],argTypes:=ats },ty,pos,after,none⟩::rest) σ w:=Jya hb (Zu hf Xy (aqc h1 (aqc h2 aq0)) rfl) hC hz h
theorem Y3{B:List Da→Aa→Prop}{f:FuncId}{x1 x2 x3:Ea}{v1 v2 v3:Ga}{ats:Array Ba}{R:Ga→Aa→Prop}{Rp:List Da→Aa→Prop}(hb:(!Aaa (clOf cl k) 0 && !Aaa (clOf cl k) 3&&Aia d n)=true)(hf:goFn P f=true)(h1:opv σ x1=some (True,v1))(h2:opv σ x2=some (True,v2))(h3:opv σ x3=some (True,v3))(hC:RetP P f #[v1,v2,v3] w R Rp)(hz:∀ ch w',Rp ch w'→B ch w')
  (h:∀ v w',R v w'→(clOf cl k=1→G w w')∧SR P (ZA B) ops cl lv W0 n K (k+1) rest ((d,True,v) :: σ) w'):SR P (ZA B) ops cl lv W0 n K k (⟨some d,.call { callee:=.value (.func f),args:=#[x1,x2,x3],argTypes:=ats },ty,pos,after,none⟩::rest) σ w:=Jya hb (Zu hf Xy (aqc h1 (aqc h2 (aqc h3 aq0))) rfl) hC hz h
theorem DK{ρ:Option Nat}{ds:List Deferred}{N T:DPost}{X:List (Nat×DPost)}{Z:List Da→DPost}{c:Code}(ks:List Nat)(h:SCD P ρ n ds c N X T Z τ w)(hk:Jgb σ ks=some τ:=by exact rfl):SCD P ρ n ds c N X T Z σ w:=Uia τ (Xya hk) h
theorem Kp{w w':Aa}{b j:Nat}{e:Ba}{l:List Ga}(h:Blk w b e l)(hg:w.grownBy w' (some j))(k:b≠j:=by first|assumption|exact fun e=>(by assumption:j≠b) e.symm|omega):Blk w' b e l:=h.keep hg fun q=>k (by injection q)
theorem KC{B0:List Da→Aa→Prop}{c:Code}(ks:List Nat)(h:SZ P B0 n c N X T τ w)(hk:Jgb σ ks=some τ:=by exact rfl):SZ P B0 n c N X T σ w:=Zng τ (Xya hk) h
theorem OR{B0:List Da→Aa→Prop}{t:Nat}{g:Bool}{y:Code}{b0:Bool}(ks:List Nat)(hy:g=false→SZ P B0 n y (fun a w'=>Kn n ((t,True,.bool b0) :: τ) a∧w'=w) X T σ w)(hN:∀ a,Kn n ((t,True,.bool (g || b0)) :: τ) a→N a w)(hk:Jgb σ (t::ks)=some ((t,True,.bool g) :: τ):=by exact rfl)(hx:look σ t=some (True,.bool g):=by exact rfl) :
  SZ P B0 n (.cond (.tmp t) .skip y) N X T σ w:=Wed τ (Xya hk) hx hy hN
theorem TK{cl ms:List Nat}{row:RelX}{m:Nat}{L:List Nat}(ks:List Nat)(h:ST P Z ops cl ms row n K m L τ w)(hk:Jgb σ ks=some τ:=by exact rfl):ST P Z ops cl ms row n K m L σ w:=Wra τ (Xya hk) h
theorem WK{f:FuncId}{fn:Func}{c:Code}{args:List Ga}{R:Ga→Aa→Prop}(m:Nat)(ks:List Nat)(hf:P.funcs[f]? = some fn)(h:SC P m c (fun a w=>bodyPost P fn (fun e w'=>∃ v,e = .returned v∧R v w') .normal a w) [] (fun a w=>bodyPost P fn (fun e w'=>∃ v,e = .returned v∧R v w') .ret a w) τ w)
  (hb:fn.body=some c:=by exact rfl) (hm:args.length+(fn.ntmps-args.length)=m:=by exact rfl) (hk:Jgb (argsK 0 args) ks=some τ:=by exact rfl):Ret P f args.toArray w R:=Vo hf hb hm τ (Xya hk) h
theorem CP{f:FuncId}{xs:List Ea}{vs:List Ga}{ats:Array Ba}(hC:Ret P f vs.toArray w fun u w'=>u=v∧G w w')(h:∀ w',G w w'→SR P Z ops cl lv W0 n K (k+1) rest ((d,True,v) :: σ) w')(hx:Yta n σ True xs vs:=by repeat first|exact aq0|refine aqc rfl ?_)
  (hb:(!Aaa (clOf cl k) 0 && !Aaa (clOf cl k) 3&&Aia d n)=true:=by exact rfl) (hf:goFn P f=true:=by kernel_rfl):SR P Z ops cl lv W0 n K k (⟨some d,.call { callee:=.value (.func f),args:=xs.toArray,argTypes:=ats },ty,pos,after,none⟩::rest) σ w:=Wy hb (Zu hf Xy hx Os) hC h
theorem CG{f:FuncId}{xs:List Ea}{vs:List Ga}{ats:Array Ba}{g t:Nat}{want b:Bool}{c0:Prop}(hC:c0∧b=want→Ret P f vs.toArray w fun u w'=>u=v∧G w w')(h:∀ w',G w w'→SR P Z ops cl lv W0 n K (k+1) rest ((d,c0∧b=want,v) :: σ) w')(hgd:((ops.toArray[g]?).bind (·.dst))=some t:=by exact rfl)(hlk:look σ t=some (c0,.bool b):=by exact rfl)
  (hx:Yta n σ (c0∧b=want) xs vs:=by repeat first|exact Yl|refine Ya EX ?_)
  (hb:(!Aaa (clOf cl k) 0 && !Aaa (clOf cl k) 3&&Aia d n)=true:=by exact rfl) (hf:goFn P f=true:=by kernel_rfl):SR P Z ops cl lv W0 n K k (⟨some d,.call { callee:=.value (.func f),args:=xs.toArray,argTypes:=ats },ty,pos,after,some (g,want)⟩::rest) σ w:=Xu hb hgd hlk (fun _=>Zu hf Xy hx Os) hC h
end
section
variable {P:Fa} {Z:List Da→Act→Aa→Prop} {ops:List Oper} {cl:List Nat} {lv:List Bool} {W0:Aa} {n:Nat} {K:Act→Aa→Prop} {k:Nat} {rest:List Oper} {σ τ:List Ent} {w:Aa} {d:Nat} {op:Op} {ty:Ba} {pos:String} {after:Array Edge} {v:Ga} {N T:Act→Aa→Prop} {X:List (Nat×(Act→Aa→Prop))} {x y:Ea} {t u:Ba}
theorem isC{c:Code}{B:List Da→Aa→Prop}(h:SZ P B n c N X T σ w):SZ P B n c N X T σ w:=h
theorem isR{l:List Oper}(h:SR P Z ops cl lv W0 n K k l σ w):SR P Z ops cl lv W0 n K k l σ w:=h
theorem isL(h:SR P Z ops cl lv W0 n K k (⟨some d,.load t x,ty,pos,after,none⟩::rest) σ w):SR P Z ops cl lv W0 n K k (⟨some d,.load t x,ty,pos,after,none⟩::rest) σ w:=h
theorem isG{g:Nat×Bool}(h:SR P Z ops cl lv W0 n K k (⟨some d,op,ty,pos,after,some g⟩::rest) σ w):SR P Z ops cl lv W0 n K k (⟨some d,op,ty,pos,after,some g⟩::rest) σ w:=h
theorem isB{b:BinOp}(h:SR P Z ops cl lv W0 n K k (⟨some d,.binOp b t x y u,ty,pos,after,none⟩::rest) σ w):SR P Z ops cl lv W0 n K k (⟨some d,.binOp b t x y u,ty,pos,after,none⟩::rest) σ w:=h
theorem isN(hb:Aaa (clOf cl k) 3=true)(h:SR P Z ops cl lv W0 n K k (⟨some d,op,ty,pos,after,none⟩::rest) σ w):SR P Z ops cl lv W0 n K k (⟨some d,op,ty,pos,after,none⟩::rest) σ w:=h
end
structure Wr (q:Prop):Prop where h:q
theorem AU{p q:Prop}(h:q)(k:Wr q→p:=by
 intro h0
 repeat first
  | (refine isC ?_;first|(refine Zj ?_;try refine Zl ?_)|refine Zl ?_|refine Yw (kq ?_)|refine Yx ?_|refine Xea rfl (kq ?_))
  | (refine isR ?_;first|(refine Ze ?_;refine kq ?_)|(refine isL ?_;first|refine Wm TYA.h rfl rfl ROW ?_|refine Xl TY1.h rfl CE ?_)|(refine isG ?_;first|(refine' Zk rfl rfl rfl ?_ ?_;rotate_left;exact fun _=>PU)|(refine' Yg rfl rfl rfl ?_ ?_;rotate_left;exact LD))|(refine isB ?_;first|refine Wgd rfl rfl ?_|refine Zea rfl rfl ?_|refine Jga rfl rfl (by omega) ?_|refine Qld rfl rfl ?_|refine Uua rfl rfl ?_|refine Vbf rfl rfl ?_|refine Zqg rfl rfl ?_|(refine' Zz rfl ?_ ?_;rotate_left;exact fun _=>PU))|(refine isN rfl ?_;first|refine Zv rfl ?_|refine Yr rfl ?_|refine Xg FOF.h rfl ?_|refine Vy rfl ?_|refine Vbe rfl ?_|refine Yha TYE.h rfl ?_|refine Zma TYE.h rfl rfl (by omega) (by first|exact hpe|assumption) ?_|refine Qo rfl rfl ?_|(refine' Zz rfl ?_ ?_;rotate_left;exact fun _=>PU)|refine Vfb TZE.h TPL.h (by first|exact pq0|exact pqc rfl pq0|repeat first|exact pq0|refine pqc rfl ?_) rfl rfl ?_))
  | (refine Jg ?_;refine kq ?_)
 exact h0.h):p:=k ⟨h⟩
theorem IF{p A B C D:Prop}(hT:A→B)(hF:C→D)(k:(A→B)→(C→D)→p:=by intro hT hF;refine AU ?_;exact Wz rfl hT hF):p:=k hT hF
theorem RS1{p:Prop}(h:p:=by repeat first|exact Ub|(apply Jna;exact rfl)|(apply Zra;exact rfl;exact TYA.h;rotate_left;exact ROW;rotate_right;exact rfl)|(apply Xbb;exact rfl;exact TY1.h;exact CE)):p:=h
theorem RTN{p q:Prop}(h:q)(k:Wr q→p:=by intro h;refine AU ?_;refine Xo ?_;first|exact Wj rfl rfl h.h|exact Wea rfl RS1 h.h|exact Yua rfl rfl RS1 rfl h.h|exact Qoe rfl h.h):p:=k ⟨h⟩
theorem AN{p:Prop}{R A L q:Nat→Aa→Prop}{B:Nat→Prop}(h:∀ b w,R b w→B b→A b w→L b w→q b w)(k:(∀ b w,R b w→B b→A b w→L b w→q b w)→p:=by
 intro h;refine AU ?_
 first
  | refine Xc rfl TZE.h rfl (fun b w N=>h b w N (We N g.size) (gtg g N.g) (E.new N))
  | refine Xc rfl TZE.h rfl (fun b w N=>h b w N (N.ge g) (g.trans N.g) (E.new N))):p:=k h
theorem AM{p:Prop}{R A L q:Nat→Aa→Prop}{B:Nat→Prop}(h:∀ b w,R b w→B b→A b w→L b w→q b w)(k:(∀ b w,R b w→B b→A b w→L b w→q b w)→p:=by
 intro h;refine AU ?_
 first
  | refine Xc rfl TZE.h rfl (fun b w N=>h b w N (We N g.size) (gtg g N.g) ((Qp _).new N))
  | refine Xc rfl TZE.h rfl (fun b w N=>h b w N (N.ge g) (g.trans N.g) ((Qp _).new N))):p:=k h
theorem BN{p:Prop}{R A L q:Nat→Aa→Prop}{B:Nat→Prop}(h:∀ b w,R b w→B b→A b w→L b w→q b w)(k:(∀ b w,R b w→B b→A b w→L b w→q b w)→p:=by
 intro h;refine AU ?_
 first
  | refine Zda rfl (Jp rfl) rfl (fun b w N=>h b w N (We N g.size) (gtg g N.g) (E.new N))
  | refine Zda rfl (Jp rfl) rfl (fun b w N=>h b w N (N.ge g) (g.trans N.g) (E.new N))):p:=k h
theorem BM{p:Prop}{R A L q:Nat→Aa→Prop}{B:Nat→Prop}(h:∀ b w,R b w→B b→A b w→L b w→q b w)(k:(∀ b w,R b w→B b→A b w→L b w→q b w)→p:=by
 intro h;refine AU ?_
 first
  | refine Zda rfl (Jp rfl) rfl (fun b w N=>h b w N (We N g.size) (gtg g N.g) ((Qp _).new N))
  | refine Zda rfl (Jp rfl) rfl (fun b w N=>h b w N (N.ge g) (g.trans N.g) ((Qp _).new N))):p:=k h
theorem CN{p:Prop}{R A L q:Nat→Aa→Prop}{B:Nat→Prop}(h:∀ b w,R b w→B b→A b w→L b w→q b w)(k:(∀ b w,R b w→B b→A b w→L b w→q b w)→p:=by
 intro h;refine AU ?_
 first
  | refine Yc _ rfl TYE.h TZE.h (by first|exact pqc rfl pq0|exact pqc rfl (pqc rfl pq0)|exact pqc rfl (pqc rfl (pqc rfl pq0))|exact pqc rfl (pqc rfl (pqc rfl (pqc rfl pq0)))|exact pqc rfl (pqc rfl (pqc rfl (pqc rfl (pqc rfl pq0))))|exact pqc rfl (pqc rfl (pqc rfl (pqc rfl (pqc rfl (pqc rfl pq0)))))) rfl rfl (fun b w N=>h b w N (We N g.size) (gtg g N.g) (E.new N))
  | refine Yc _ rfl TYE.h TZE.h (by first|exact pqc rfl pq0|exact pqc rfl (pqc rfl pq0)|exact pqc rfl (pqc rfl (pqc rfl pq0))|exact pqc rfl (pqc rfl (pqc rfl (pqc rfl pq0)))|exact pqc rfl (pqc rfl (pqc rfl (pqc rfl (pqc rfl pq0))))|exact pqc rfl (pqc rfl (pqc rfl (pqc rfl (pqc rfl (pqc rfl pq0)))))) rfl rfl (fun b w N=>h b w N (N.ge g) (g.trans N.g) (E.new N))):p:=k h
theorem CM{p:Prop}{R A L q:Nat→Aa→Prop}{B:Nat→Prop}(h:∀ b w,R b w→B b→A b w→L b w→q b w)(k:(∀ b w,R b w→B b→A b w→L b w→q b w)→p:=by
 intro h;refine AU ?_
 first
  | refine Yc _ rfl TYE.h TZE.h (by first|exact pqc rfl pq0|exact pqc rfl (pqc rfl pq0)|exact pqc rfl (pqc rfl (pqc rfl pq0))|exact pqc rfl (pqc rfl (pqc rfl (pqc rfl pq0)))|exact pqc rfl (pqc rfl (pqc rfl (pqc rfl (pqc rfl pq0))))|exact pqc rfl (pqc rfl (pqc rfl (pqc rfl (pqc rfl (pqc rfl pq0)))))) rfl rfl (fun b w N=>h b w N (We N g.size) (gtg g N.g) ((Qp _).new N))
  | refine Yc _ rfl TYE.h TZE.h (by first|exact pqc rfl pq0|exact pqc rfl (pqc rfl pq0)|exact pqc rfl (pqc rfl (pqc rfl pq0))|exact pqc rfl (pqc rfl (pqc rfl (pqc rfl pq0)))|exact pqc rfl (pqc rfl (pqc rfl (pqc rfl (pqc rfl pq0))))|exact pqc rfl (pqc rfl (pqc rfl (pqc rfl (pqc rfl (pqc rfl pq0)))))) rfl rfl (fun b w N=>h b w N (N.ge g) (g.trans N.g) ((Qp _).new N))):p:=k h
theorem AS{p B:Prop}{R A L q:Aa→Prop}(h:∀ w,R w→B→A w→L w→q w)(k:(∀ w,R w→B→A w→L w→q w)→p:=by
 intro h;refine AU ?_
 first
  | refine Zfa TSZ.h rfl rfl rfl E.g0 (fun w r _ B=>h w r E.g0 (by first|exact Yd g r (by first|assumption|omega)|exact Yu g r (by first|assumption|omega)) (E.s0 r B))
  | refine Xdb TSZ.h rfl rfl rfl E.g0 (fun w r _ B=>h w r E.g0 (by first|exact Yd g r (by first|assumption|omega)|exact Yu g r (by first|assumption|omega)) (E.s0 r B))
  | refine Zfa TSZ.h rfl rfl rfl E.g1 (fun w r _ B=>h w r E.g1 (by first|exact Yd g r (by first|assumption|omega)|exact Yu g r (by first|assumption|omega)) (E.s1 r B))
  | refine Xdb TSZ.h rfl rfl rfl E.g1 (fun w r _ B=>h w r E.g1 (by first|exact Yd g r (by first|assumption|omega)|exact Yu g r (by first|assumption|omega)) (E.s1 r B))
  | refine Zfa TSZ.h rfl rfl rfl E.g2 (fun w r _ B=>h w r E.g2 (by first|exact Yd g r (by first|assumption|omega)|exact Yu g r (by first|assumption|omega)) (E.s2 r B))
  | refine Xdb TSZ.h rfl rfl rfl E.g2 (fun w r _ B=>h w r E.g2 (by first|exact Yd g r (by first|assumption|omega)|exact Yu g r (by first|assumption|omega)) (E.s2 r B))
  | refine Zfa TSZ.h rfl rfl rfl E.g3 (fun w r _ B=>h w r E.g3 (by first|exact Yd g r (by first|assumption|omega)|exact Yu g r (by first|assumption|omega)) (E.s3 r B))
  | refine Xdb TSZ.h rfl rfl rfl E.g3 (fun w r _ B=>h w r E.g3 (by first|exact Yd g r (by first|assumption|omega)|exact Yu g r (by first|assumption|omega)) (E.s3 r B))
  | refine Zfa TSZ.h rfl rfl rfl E.g4 (fun w r _ B=>h w r E.g4 (by first|exact Yd g r (by first|assumption|omega)|exact Yu g r (by first|assumption|omega)) (E.s4 r B))
  | refine Xdb TSZ.h rfl rfl rfl E.g4 (fun w r _ B=>h w r E.g4 (by first|exact Yd g r (by first|assumption|omega)|exact Yu g r (by first|assumption|omega)) (E.s4 r B))
  | refine Zfa TSZ.h rfl rfl rfl E.g5 (fun w r _ B=>h w r E.g5 (by first|exact Yd g r (by first|assumption|omega)|exact Yu g r (by first|assumption|omega)) (E.s5 r B))
  | refine Xdb TSZ.h rfl rfl rfl E.g5 (fun w r _ B=>h w r E.g5 (by first|exact Yd g r (by first|assumption|omega)|exact Yu g r (by first|assumption|omega)) (E.s5 r B))
  | refine Zfa TSZ.h rfl rfl rfl E.g6 (fun w r _ B=>h w r E.g6 (by first|exact Yd g r (by first|assumption|omega)|exact Yu g r (by first|assumption|omega)) (E.s6 r B))
  | refine Xdb TSZ.h rfl rfl rfl E.g6 (fun w r _ B=>h w r E.g6 (by first|exact Yd g r (by first|assumption|omega)|exact Yu g r (by first|assumption|omega)) (E.s6 r B))
  | refine Zfa TSZ.h rfl rfl rfl E.g7 (fun w r _ B=>h w r E.g7 (by first|exact Yd g r (by first|assumption|omega)|exact Yu g r (by first|assumption|omega)) (E.s7 r B))
  | refine Xdb TSZ.h rfl rfl rfl E.g7 (fun w r _ B=>h w r E.g7 (by first|exact Yd g r (by first|assumption|omega)|exact Yu g r (by first|assumption|omega)) (E.s7 r B))
  | refine Zfa TSZ.h rfl rfl rfl E.g8 (fun w r _ B=>h w r E.g8 (by first|exact Yd g r (by first|assumption|omega)|exact Yu g r (by first|assumption|omega)) (E.s8 r B))
  | refine Xdb TSZ.h rfl rfl rfl E.g8 (fun w r _ B=>h w r E.g8 (by first|exact Yd g r (by first|assumption|omega)|exact Yu g r (by first|assumption|omega)) (E.s8 r B))
  | refine Zfa TSZ.h rfl rfl rfl E.g9 (fun w r _ B=>h w r E.g9 (by first|exact Yd g r (by first|assumption|omega)|exact Yu g r (by first|assumption|omega)) (E.s9 r B))
  | refine Xdb TSZ.h rfl rfl rfl E.g9 (fun w r _ B=>h w r E.g9 (by first|exact Yd g r (by first|assumption|omega)|exact Yu g r (by first|assumption|omega)) (E.s9 r B))
  | refine Zfa TSZ.h rfl rfl rfl E.g10 (fun w r _ B=>h w r E.g10 (by first|exact Yd g r (by first|assumption|omega)|exact Yu g r (by first|assumption|omega)) (E.s10 r B))
  | refine Xdb TSZ.h rfl rfl rfl E.g10 (fun w r _ B=>h w r E.g10 (by first|exact Yd g r (by first|assumption|omega)|exact Yu g r (by first|assumption|omega)) (E.s10 r B))
  | refine Zfa TSZ.h rfl rfl rfl E.g11 (fun w r _ B=>h w r E.g11 (by first|exact Yd g r (by first|assumption|omega)|exact Yu g r (by first|assumption|omega)) (E.s11 r B))
  | refine Xdb TSZ.h rfl rfl rfl E.g11 (fun w r _ B=>h w r E.g11 (by first|exact Yd g r (by first|assumption|omega)|exact Yu g r (by first|assumption|omega)) (E.s11 r B))
  | refine Zfa TSZ.h rfl rfl rfl E.g12 (fun w r _ B=>h w r E.g12 (by first|exact Yd g r (by first|assumption|omega)|exact Yu g r (by first|assumption|omega)) (E.s12 r B))
  | refine Xdb TSZ.h rfl rfl rfl E.g12 (fun w r _ B=>h w r E.g12 (by first|exact Yd g r (by first|assumption|omega)|exact Yu g r (by first|assumption|omega)) (E.s12 r B))):p:=k h
theorem Ua{p q:Prop}(h:p)(k:p→q:=by exact fun h=>h.keep ga Os):q:=k h
theorem Ud{p q:Prop}(h:p)(k:p→q:=by exact fun h=>h.keep ga (fun k hk _ e=>by injection e with e;omega)):q:=k h
theorem Ui{p q:Prop}(h:p)(k:p→q:=by exact fun h=>h.grow ga.g):q:=k h
theorem Uj{p q:Prop}(h:p)(k:p→q:=by exact fun h=>h.new ga):q:=k h
theorem Uk{p q:Prop}(h:p)(k:p→q:=by exact fun h=>h.grow ga):q:=k h
end Go.Rk
namespace Go.Rk
open Go.Proofs
open Go
theorem bsimp:True:=trivial
def letterB(c:Int):Bool:=(decide (97≤c)&&decide (c≤122) || decide (65≤c)&&decide (c≤90)) || decide (c=95)
def digitB(c:Int):Bool:=decide (48≤c)&&decide (c≤57)
theorem Zsc(c:Int)(w:Aa):Ret PP 178 #[.int .u8 c] w fun v w'=>v = .bool (letterB c)∧G w w':=by
 have g:=G.refl w;refine WK 21 [0] Tryz.func178 ?_;refine RTN ?_;exact ⟨rfl,g⟩
theorem Wwc(c:Int)(w:Aa):Ret PP 180 #[.int .u8 c] w fun v w'=>v = .bool (digitB c)∧G w w':=by
 have g:=G.refl w;refine WK 9 [0] Tryz.func180 ?_;refine RTN ?_;exact ⟨rfl,g⟩
theorem Jfe(c:Int)(w:Aa):Ret PP 177 #[.int .u8 c] w fun v w'=>v = .bool (!decide (c=10))∧G w w':=by
 have g:=G.refl w;refine WK 5 [0] Tryz.func177 ?_;refine RTN ?_;exact ⟨rfl,g⟩
theorem Jge(c:Int)(w:Aa):Ret PP 179 #[.int .u8 c] w fun v w'=>v = .bool (letterB c || digitB c)∧G w w':=by
 have g:=G.refl w;refine WK 9 [0] Tryz.func179 ?_;refine AU ?_;refine CP (Zsc _ _) (fun w4 g4=>?_);have g:=g.trans g4;refine AU ?_;refine CG (fun hc=>Wwc _ _) (fun w7 g7=>?_);have g:=g.trans g7;refine RTN ?_;exact ⟨rfl,g⟩
def kws:List (List UInt8):=[[116,121,112,101],[115,116,114,117,99,116],[118,97,114],[102,117,110,99],[105,102],[101,108,115,101],[102,111,114],[114,101,116,117,114,110],[103,111],[100,101,102,101,114],[115,101,108,101,99,116],[99,97,115,101],[100,101,102,97,117,108,116],[99,104,97,110],[110,101,119],[109,97,107,101],[108,101,110],[116,114,117,101],[102,97,108,115,101],[110,105,108],[112,114,105,110,116],[99,108,111,115,101],[105,110,116],[98,111,111,108],[109,117,116,101,120],[114,119,109,117,116,101,120],[103,114,111,117,112],[111,110,99,101],[97,116,111,109,105,99]]
def endw:List (List UInt8):=[[116,114,117,101],[102,97,108,115,101],[110,105,108],[114,101,116,117,114,110],[105,110,116],[98,111,111,108],[109,117,116,101,120],[114,119,109,117,116,101,120],[103,114,111,117,112],[111,110,99,101],[97,116,111,109,105,99],[41],[93],[125]]
def inB(l:List (List UInt8))(s:List UInt8):Bool:=l.any fun k=>decide (s=k)
theorem Qpd(s:List UInt8)(w:Aa):Ret PP 181 #[Str s] w fun v w'=>v = .bool (inB kws s)∧G w w':=by
 have g:=G.refl w;refine WK 34 [0] Tryz.func181 ?_;refine AU ?_;refine' OR [2] (fun hb1=>?y1) (kq ?n1)
 case y1 =>
  refine AU ?_;refine' OR [2] (fun hb2=>?y2) knr
  case y2 =>
   refine AU ?_;refine' OR [2] (fun hb3=>?y3) knr
   case y3 =>
    refine AU ?_;refine' OR [2] (fun hb4=>?y4) knr
    case y4 =>
     refine AU ?_;refine' OR [2] (fun hb5=>?y5) knr
     case y5 =>
      refine AU ?_;refine' OR [2] (fun hb6=>?y6) knr
      case y6 =>
       refine AU ?_;refine' OR [2] (fun hb7=>?y7) knr
       case y7 =>
        refine AU ?_;refine' OR [2] (fun hb8=>?y8) knr
        case y8 =>
         refine AU ?_;refine' OR [2] (fun hb9=>?y9) knr
         case y9 =>
          refine AU ?_;refine' OR [2] (fun hb10=>?y10) knr
          case y10 =>
           refine AU ?_;refine' OR [2] (fun hb11=>?y11) knr
           case y11 =>
            refine AU ?_;refine' OR [2] (fun hb12=>?y12) knr
            case y12 =>
             refine AU ?_;refine' OR [2] (fun hb13=>?y13) knr
             case y13 =>
              refine AU ?_;refine' OR [2] (fun hb14=>?y14) knr
              case y14 =>
               refine AU ?_;refine' OR [2] (fun hb15=>?y15) knr
               case y15 =>
                refine AU ?_;refine' OR [2] (fun hb16=>?y16) knr
                case y16 =>
                 refine AU ?_;refine' OR [2] (fun hb17=>?y17) knr
                 case y17 =>
                  refine AU ?_;refine' OR [2] (fun hb18=>?y18) knr
                  case y18 =>
                   refine AU ?_;refine' OR [2] (fun hb19=>?y19) knr
                   case y19 =>
                    refine AU ?_;refine' OR [2] (fun hb20=>?y20) knr
                    case y20 =>
                     refine AU ?_;refine' OR [2] (fun hb21=>?y21) knr
                     case y21 =>
                      refine AU ?_;refine' OR [2] (fun hb22=>?y22) knr
                      case y22 =>
                       refine AU ?_;refine' OR [2] (fun hb23=>?y23) knr
                       case y23 =>
                        refine AU ?_;refine' OR [2] (fun hb24=>?y24) knr
                        case y24 =>
                         refine AU ?_;refine' OR [2] (fun hb25=>?y25) knr
                         case y25 =>
                          refine AU ?_;refine' OR [2] (fun hb26=>?y26) knr
                          case y26 =>
                           refine AU ?_;refine' OR [2] (fun hb27=>?y27) knr
                           case y27 =>
                            refine AU ?_;refine' OR [2] (fun hb28=>?y28) knr
                            case y28 =>
                             refine AU ?_;refine SK [4,2] ?_;exact Ze knr
 case n1 =>
  refine IF (fun h29=>?_) fun h29=>?_;(try simp only [bsimp] at h29);refine RTN ?_;refine ⟨?_,g⟩;simp only [inB,kws,Aoa,Apa,Aja];rw [h29];refine RTN ?_;refine ⟨?_,g⟩;simp only [inB,kws,Aoa,Apa,Aja];rw [h29]
theorem Vne(s:List UInt8)(w:Aa):Ret PP 185 #[Str s] w fun v w'=>v = .bool (inB endw s)∧G w w':=by
 have g:=G.refl w;refine WK 19 [0] Tryz.func185 ?_;refine AU ?_;refine' OR [2] (fun hb1=>?y1) (kq ?n1)
 case y1 =>
  refine AU ?_;refine' OR [2] (fun hb2=>?y2) knr
  case y2 =>
   refine AU ?_;refine' OR [2] (fun hb3=>?y3) knr
   case y3 =>
    refine AU ?_;refine' OR [2] (fun hb4=>?y4) knr
    case y4 =>
     refine AU ?_;refine' OR [2] (fun hb5=>?y5) knr
     case y5 =>
      refine AU ?_;refine' OR [2] (fun hb6=>?y6) knr
      case y6 =>
       refine AU ?_;refine' OR [2] (fun hb7=>?y7) knr
       case y7 =>
        refine AU ?_;refine' OR [2] (fun hb8=>?y8) knr
        case y8 =>
         refine AU ?_;refine' OR [2] (fun hb9=>?y9) knr
         case y9 =>
          refine AU ?_;refine' OR [2] (fun hb10=>?y10) knr
          case y10 =>
           refine AU ?_;refine' OR [2] (fun hb11=>?y11) knr
           case y11 =>
            refine AU ?_;refine' OR [2] (fun hb12=>?y12) knr
            case y12 =>
             refine AU ?_;refine' OR [2] (fun hb13=>?y13) knr
             case y13 =>
              refine AU ?_;refine SK [4,2] ?_;exact Ze knr
 case n1 =>
  refine IF (fun h14=>?_) fun h14=>?_;(try simp only [bsimp] at h14);refine RTN ?_;refine ⟨?_,g⟩;simp only [inB,endw,Aoa,Apa,Aja];rw [h14];refine RTN ?_;refine ⟨?_,g⟩;simp only [inB,endw,Aoa,Apa,Aja];rw [h14]
theorem Wod(s:List UInt8)(w:Aa):Ret PP 95 #[Str s] w fun v w'=>v = .bool (inB kws s)∧G w w':=by
 have g:=G.refl w;refine WK 34 [0] Tryz.func95 ?_;refine AU ?_;refine' OR [2] (fun hb1=>?y1) (kq ?n1)
 case y1 =>
  refine AU ?_;refine' OR [2] (fun hb2=>?y2) knr
  case y2 =>
   refine AU ?_;refine' OR [2] (fun hb3=>?y3) knr
   case y3 =>
    refine AU ?_;refine' OR [2] (fun hb4=>?y4) knr
    case y4 =>
     refine AU ?_;refine' OR [2] (fun hb5=>?y5) knr
     case y5 =>
      refine AU ?_;refine' OR [2] (fun hb6=>?y6) knr
      case y6 =>
       refine AU ?_;refine' OR [2] (fun hb7=>?y7) knr
       case y7 =>
        refine AU ?_;refine' OR [2] (fun hb8=>?y8) knr
        case y8 =>
         refine AU ?_;refine' OR [2] (fun hb9=>?y9) knr
         case y9 =>
          refine AU ?_;refine' OR [2] (fun hb10=>?y10) knr
          case y10 =>
           refine AU ?_;refine' OR [2] (fun hb11=>?y11) knr
           case y11 =>
            refine AU ?_;refine' OR [2] (fun hb12=>?y12) knr
            case y12 =>
             refine AU ?_;refine' OR [2] (fun hb13=>?y13) knr
             case y13 =>
              refine AU ?_;refine' OR [2] (fun hb14=>?y14) knr
              case y14 =>
               refine AU ?_;refine' OR [2] (fun hb15=>?y15) knr
               case y15 =>
                refine AU ?_;refine' OR [2] (fun hb16=>?y16) knr
                case y16 =>
                 refine AU ?_;refine' OR [2] (fun hb17=>?y17) knr
                 case y17 =>
                  refine AU ?_;refine' OR [2] (fun hb18=>?y18) knr
                  case y18 =>
                   refine AU ?_;refine' OR [2] (fun hb19=>?y19) knr
                   case y19 =>
                    refine AU ?_;refine' OR [2] (fun hb20=>?y20) knr
                    case y20 =>
                     refine AU ?_;refine' OR [2] (fun hb21=>?y21) knr
                     case y21 =>
                      refine AU ?_;refine' OR [2] (fun hb22=>?y22) knr
                      case y22 =>
                       refine AU ?_;refine' OR [2] (fun hb23=>?y23) knr
                       case y23 =>
                        refine AU ?_;refine' OR [2] (fun hb24=>?y24) knr
                        case y24 =>
                         refine AU ?_;refine' OR [2] (fun hb25=>?y25) knr
                         case y25 =>
                          refine AU ?_;refine' OR [2] (fun hb26=>?y26) knr
                          case y26 =>
                           refine AU ?_;refine' OR [2] (fun hb27=>?y27) knr
                           case y27 =>
                            refine AU ?_;refine' OR [2] (fun hb28=>?y28) knr
                            case y28 =>
                             refine AU ?_;refine SK [4,2] ?_;exact Ze knr
 case n1 =>
  refine IF (fun h29=>?_) fun h29=>?_;(try simp only [bsimp] at h29);refine RTN ?_;refine ⟨?_,g⟩;simp only [inB,kws,Aoa,Apa,Aja];rw [h29];refine RTN ?_;refine ⟨?_,g⟩;simp only [inB,kws,Aoa,Apa,Aja];rw [h29]
end Go.Rk
namespace Go.Rk
open Go.Proofs
open Go Go.RowKit
def preB(p s:List UInt8):Bool:=decide (p.length≤s.length)&&decide (s.take p.length=p)
theorem Ydd(s p:List UInt8)(w:Aa):Ret PP 186 #[Str s,Str p] w fun v w'=>v = .bool (preB p s)∧G w w':=by
 have g:=G.refl w;refine WK 18 [0,1] Tryz.func186 ?_;refine AU ?_;refine Zk J J J (fun _=>Zec Vl (Zp J id) (Zp J id) (fun hc=>⟨O,by have:=Wrg hc.2;omega⟩)) ?_;refine RTN ?_;refine ⟨?_,g⟩;unfold preB;simp
theorem Udb(s p:List UInt8)(w:Aa):Ret PP 175 #[Str s,Str p] w fun v w'=>v = .bool (preB p s)∧G w w':=by
 have g:=G.refl w;refine WK 8 [0,1] Tryz.func175 ?_;refine AU ?_;refine CP (Ydd _ _ _) (fun w7 g7=>?_);have g:=g.trans g7;refine RTN ?_;exact ⟨rfl,g⟩
structure Tok where
  kind:Int
  text:List UInt8
  pos:Int
def tokCells(t:Tok):List Ga:=[.int .i64 t.kind,Str t.text,.int .i64 t.pos]
def toksCells(l:List Tok):List Ga:=l.flatMap tokCells
theorem Jza(l:List Tok):(toksCells l).length=l.length*3:=by
 unfold toksCells
 induction l with
 | nil=>rfl
 | cons t l ih=>rw [Aqa,Ala,ih];simp [tokCells];omega
theorem Xka(l:List Tok)(t:Tok):toksCells (l++[t])=toksCells l++tokCells t:=by simp [toksCells]
def Scn(base b:Nat)(s:List UInt8)(p:Nat)(ts cs:List Tok)(w:Aa):Prop :=
 ∃ ta tc ca cc,Blk w b 127 [Str s,.int .i64 p,.slice ta ts.length tc,.slice ca cs.length cc]∧base≤b∧w.ownsRow base 94 3 (.slice ta ts.length tc) ts.length (toksCells ts)∧
  w.ownsRow base 94 3 (.slice ca cs.length cc) cs.length (toksCells cs)∧(Ia ta ts.length tc).ownBlock≠some b∧(Ia ca cs.length cc).ownBlock≠some b∧
  (∀ k,(Ia ta ts.length tc).ownBlock=some k→(Ia ca cs.length cc).ownBlock≠some k)∧ts.length≤p∧cs.length≤p∧p≤s.length∧s.length≤20000
theorem Zzb{w:Aa}{base:Nat}{e:Ba}{z:Nat}{tv tv' cv:Ga}{m:Nat}{xs:List Ga}(hc:w.ownsRow base e z cv m xs)(n3:∀ k,tv.ownBlock=some k→cv.ownBlock≠some k)
 (hat:tv'.ownBlock=tv.ownBlock∨tv'.ownBlock=some w.heap.size):∀ k,tv'.ownBlock=some k→cv.ownBlock≠some k:=by
 intro k hk;rcases hat with e|e;exact n3 k (e▸hk);rw [e] at hk;injection hk with hk;subst hk;exact Zpg hc (Ada _)
theorem Ztc{w:Aa}{b:Nat}{tv tv':Ga}(hb:b<w.heap.size)(n1:tv.ownBlock≠some b)(hat:tv'.ownBlock=tv.ownBlock∨tv'.ownBlock=some w.heap.size):tv'.ownBlock≠some b:=by
 rcases hat with e|e <;> rw [e]
 exact n1;intro h;injection h with h;omega
theorem Zuc{w w':Aa}{base:Nat}{e:Ba}{z:Nat}{tv cv:Ga}{m:Nat}{xs:List Ga}(hc:w.ownsRow base e z cv m xs)(n3:∀ k,tv.ownBlock=some k→cv.ownBlock≠some k)(hg:w.grownBy w' tv.ownBlock):w'.ownsRow base e z cv m xs :=
 Ym hc hg (by rcases hq:cv.ownBlock with _|k;exact .inl rfl;exact .inr (fun he=>n3 k he.symm hq))
theorem Yed(base b:Nat)(s:List UInt8)(p:Nat)(ts cs:List Tok)(kind:Int)(size:Nat)(w:Aa)(hs:Scn base b s p ts cs w)(h1:1≤size)(h2:p+size≤s.length) :
 Ret PP 182 #[.pointer (some ⟨b,0,none⟩),.int .i64 kind,.int .i64 size] w fun v w'=>v = .tuple #[]∧Scn base b s (p+size) (ts++[⟨kind,(s.drop p).take size,p⟩]) cs w'∧Below base w w':=by
 obtain ⟨ta,tc,ca,cc,hB,hb0,ht,hc,n1,n2,n3,k1,k2,k3,k4⟩:=hs;have hb:Below base w w:=Below.refl _ _;have hlt:=hB.lt;refine Vo (m:=44) Tryz.func182 J J [(0,True,_),(1,True,_),(2,True,_)] (Za J (Za J (Za J (Zr _)))) ?_;refine Zj (Xs [3,3,3,3,0,3,3,3,3,0,3,3,3,0,3,3,3,0,3,3,3,3,3,3,0,3,1,2,3,3,2] [true,true,true,true,true,true,true,true,true,true,true,true,true,true,true,true,true,true,true,true,true,true,true,true,true,true,true,true,true,true,true] [0,0,2,6,14,0,0,64,192,448,0,1024,3072,7168,0,16384,49152,114688,0,507904,1048512,0,2097152,6291456,14680064,33554400,67108832,134217726,268435455,536870911,1073741823] mix KR ?_);have hb:=hb.drew;have hB:Blk w.drew _ _ _:=hB;have ht:=Wfd ht;have hc:=Wfd hc;refine Zv J (Zv J (Vy J (Xg Qb J (Xl Un J (hB.at_ J) (Zv J (Zv J (Vy J (Xg Wq J (Xl Yy J (hB.at_ J) (Zv J (Vy J (Xg Ys J (Xl Yf J (hB.at_ J) (Zv J (Vy J (?_))))))))))))))));refine Xg Ys J (Xl Yf J (hB.at_ J) (Zv J (Jga J J O (Zz J (fun _=>Zdc Vl (Zd J) (Zd J) (Zd J) (fun _=>O)) (Zv J (Vy J (Xg Ys J (Xl Yf J (hB.at_ J) (Vfb Qr Uda (pqc J (pqc J (pqc J pq0))) J J (Yc _ J Vc Qr (pqc J pq0) J J ?_))))))))));intro b32 w32 N32;have hb:=hb.trans (Zza N32.g (by show base≤w.heap.size;omega));have hB:=hB.grow N32.g;have ht:=Xw ht N32.g;have hc:=Xw hc N32.g;have hlt:=hB.lt;have E:=(Qp _).new N32;refine Um J Vc Qr J Od (Zd J) ht (Zd J) J N32.blk.row J (by simp only [maxLen];omega) O O ?_;intro ta' tc' w33 ht' hg hat;have hb:=Zqa hb hg O (fun k hk=>(ht.lt k hk).1);have hB:=hB.keep hg (Ne.symm n1);have n3':=Zzb hc n3 hat;have hc:=Zuc hc n3 hg;have n3:=n3'
 have n1:=Ztc hlt n1 hat;refine AU ?_;refine Xn J Yqa (Zd J) (Zd J) J J hB J J ?_;intro w34 hg2 hz2 hB;have hb:=Zqa hb hg2 (by have:=hb.size;omega) (fun k hk=>by injection hk with hk;omega);have ht':=Ym ht' hg2 (.inr n1);have hc:=Ym hc hg2 (.inr n2);refine AU ?_;refine Xn J Wta (Zd J) (Zd J) J J hB J J ?_;intro w44 hg3 hz3 hB;have hb:=Zqa hb hg3 (by have:=hb.size;omega) (fun k hk=>by injection hk with hk;omega);have ht':=Ym ht' hg3 (.inr n1);have hc:=Ym hc hg3 (.inr n2);refine Ze (Yfa J ?_);have e:((p:Int)+size).toNat-(p:Int).toNat=size:=by omega
 rw [e] at ht';have hl:(ts++[(⟨kind,(s.drop p).take size,p⟩:Tok)]).length=ts.length+1:=by simp
 refine ⟨rfl,⟨ta',tc',ca,cc,?_,hb0,?_,hc,?_,n2,?_,?_,O,h2,k4⟩,hb⟩ <;> rw [hl]
 exact hB;rw [Xka];exact ht';exact n1;exact n3;omega
structure SA (base b:Nat) (s:List UInt8) (p:Nat) (ts cs:List Tok) (ta:Option Addr) (tc:Nat) (ca:Option Addr) (cc:Nat) (w:Aa):Prop where
  B:Blk w b 127 [Str s,.int .i64 p,.slice ta ts.length tc,.slice ca cs.length cc]
  hb:base≤b
  ht:w.ownsRow base 94 3 (.slice ta ts.length tc) ts.length (toksCells ts)
  hc:w.ownsRow base 94 3 (.slice ca cs.length cc) cs.length (toksCells cs)
  n1:(Ia ta ts.length tc).ownBlock≠some b
  n2:(Ia ca cs.length cc).ownBlock≠some b
  n3:∀ k,(Ia ta ts.length tc).ownBlock=some k→(Ia ca cs.length cc).ownBlock≠some k
theorem SA.grow{base b:Nat}{s:List UInt8}{p:Nat}{ts cs:List Tok}{ta:Option Addr}{tc:Nat}{ca:Option Addr}{cc:Nat}{w w1:Aa}(h:SA base b s p ts cs ta tc ca cc w)(g:G w w1):SA base b s p ts cs ta tc ca cc w1 :=
 { h with B:=h.B.grow g,ht:=Xw h.ht g,hc:=Xw h.hc g }
theorem SA.scn{base b:Nat}{s:List UInt8}{p:Nat}{ts cs:List Tok}{ta:Option Addr}{tc:Nat}{ca:Option Addr}{cc:Nat}{w:Aa}(h:SA base b s p ts cs ta tc ca cc w)(k1:ts.length≤p)(k2:cs.length≤p)(k3:p≤s.length)(k4:s.length≤20000):Scn base b s p ts cs w :=
 ⟨ta,tc,ca,cc,h.B,h.hb,h.ht,h.hc,h.n1,h.n2,h.n3,k1,k2,k3,k4⟩
theorem Scn.sa{base b:Nat}{s:List UInt8}{p:Nat}{ts cs:List Tok}{w:Aa}(h:Scn base b s p ts cs w):∃ ta tc ca cc,SA base b s p ts cs ta tc ca cc w∧ts.length≤p∧cs.length≤p∧p≤s.length∧s.length≤20000:=by
 obtain ⟨ta,tc,ca,cc,hB,hb0,ht,hc,n1,n2,n3,k1,k2,k3,k4⟩:=h;exact ⟨ta,tc,ca,cc,⟨hB,hb0,ht,hc,n1,n2,n3⟩,k1,k2,k3,k4⟩
theorem SA.base_le{base b:Nat}{s:List UInt8}{p:Nat}{ts cs:List Tok}{ta:Option Addr}{tc:Nat}{ca:Option Addr}{cc:Nat}{w:Aa}(h:SA base b s p ts cs ta tc ca cc w):base≤w.heap.size:=by have:=h.hb;have:=h.B.lt;omega
theorem SA.setp{base b:Nat}{s:List UInt8}{p q:Nat}{ts cs:List Tok}{ta:Option Addr}{tc:Nat}{ca:Option Addr}{cc:Nat}{w w1:Aa}(h:SA base b s p ts cs ta tc ca cc w)(hg:w.grownBy w1 (some b))
  (hB:Blk w1 b 127 [Str s,.int .i64 q,.slice ta ts.length tc,.slice ca cs.length cc]):SA base b s q ts cs ta tc ca cc w1 :=
 { h with B:=hB,ht:=Ym h.ht hg (.inr h.n1),hc:=Ym h.hc hg (.inr h.n2) }
theorem Xrb{base b:Nat}{a wk w1 w2:Aa}(hb:Below base a wk)(g:G wk w1)(hg:w1.grownBy w2 (some b))(hz:base≤wk.heap.size)(h:base≤b):Below base a w2:=by
 have:=g.size;exact Zqa (hb.trans (Zza g hz)) hg O (fun k hk=>by injection hk with hk;omega)
theorem Scn.grow{base b:Nat}{s:List UInt8}{p:Nat}{ts cs:List Tok}{w w1:Aa}(h:Scn base b s p ts cs w)(g:G w w1):Scn base b s p ts cs w1:=by
 obtain ⟨ta,tc,ca,cc,h,k1,k2,k3,k4⟩:=h.sa;exact (h.grow g).scn k1 k2 k3 k4
theorem SA.putT{base b:Nat}{s:List UInt8}{p:Nat}{ts cs:List Tok}{ta:Option Addr}{tc:Nat}{ca:Option Addr}{cc:Nat}{w w1 w2:Aa}{ta':Option Addr}{tc':Nat}{t:Tok}(h:SA base b s p ts cs ta tc ca cc w)
 (h1:w1.ownsRow base 94 3 (.slice ta' (ts.length+1) tc') (ts.length+1) (toksCells ts++tokCells t)) (hg:w.grownBy w1 (Ia ta ts.length tc).ownBlock)
 (hat:(Ia ta' (ts.length+1) tc').ownBlock=(Ia ta ts.length tc).ownBlock∨(Ia ta' (ts.length+1) tc').ownBlock=some w.heap.size) (hg2:w1.grownBy w2 (some b))
 (hB:Blk w2 b 127 [Str s,.int .i64 p,.slice ta' (ts.length+1) tc',.slice ca cs.length cc]):SA base b s p (ts++[t]) cs ta' tc' ca cc w2:=by
 have n1:=Ztc h.B.lt h.n1 hat;have hl:(ts++[t]).length=ts.length+1:=by simp
 have hc:=Zuc h.hc h.n3 hg;refine ⟨by rw [hl];exact hB,h.hb,?_,Ym hc hg2 (.inr h.n2),by rw [hl];exact n1,h.n2,?_⟩;rw [hl,Xka];exact Ym h1 hg2 (.inr n1);rw [hl];exact Zzb h.hc h.n3 hat
theorem SA.putC{base b:Nat}{s:List UInt8}{p:Nat}{ts cs:List Tok}{ta:Option Addr}{tc:Nat}{ca:Option Addr}{cc:Nat}{w w1 w2:Aa}{ca':Option Addr}{cc':Nat}{t:Tok}(h:SA base b s p ts cs ta tc ca cc w)
 (h1:w1.ownsRow base 94 3 (.slice ca' (cs.length+1) cc') (cs.length+1) (toksCells cs++tokCells t)) (hg:w.grownBy w1 (Ia ca cs.length cc).ownBlock)
 (hat:(Ia ca' (cs.length+1) cc').ownBlock=(Ia ca cs.length cc).ownBlock∨(Ia ca' (cs.length+1) cc').ownBlock=some w.heap.size) (hg2:w1.grownBy w2 (some b))
 (hB:Blk w2 b 127 [Str s,.int .i64 p,.slice ta ts.length tc,.slice ca' (cs.length+1) cc']):SA base b s p ts (cs++[t]) ta tc ca' cc' w2:=by
 have n2:=Ztc h.B.lt h.n2 hat;have hl:(cs++[t]).length=cs.length+1:=by simp
 have n3':∀ k,(Ia ca cs.length cc).ownBlock=some k→(Ia ta ts.length tc).ownBlock≠some k:=fun k hk he=>h.n3 k he hk;have ht:=Zuc h.ht n3' hg;refine ⟨by rw [hl];exact hB,h.hb,Ym ht hg2 (.inr h.n1),?_,h.n1,by rw [hl];exact n2,?_⟩;rw [hl,Xka];exact Ym h1 hg2 (.inr n2);rw [hl];exact fun k hk he=>Zzb h.ht n3' hat k he hk
def Yie(t:Tok):Bool:=(decide (t.kind=1) || decide (t.kind=2)) || inB endw t.text
def nlTs(p:Nat)(ts:List Tok):List Tok:=match ts.getLast? with
 | some t=>if Yie t=true then ts++[⟨4,[59],p⟩] else ts
 | none=>ts
theorem Jhe{w:Aa}{b:Nat}{ts0:List Tok}{t:Tok}(h:RowAt w b 0 (toksCells (ts0++[t]))):RowAt w b (0+(((ts0++[t]).length:Nat)-1:Int).toNat*3) (tokCells t):=by
 have e:(((ts0++[t]).length:Nat)-1:Int).toNat=ts0.length:=by simp
 have k:=h.part (ts0.length*3) 3;rw [e]
 have e2:((toksCells (ts0++[t])).drop (ts0.length*3)).take 3=tokCells t:=by
  rw [Xka,List.drop_append_of_le_length (by rw [Jza];exact Ada _),Bia (by rw [Jza];exact Ada _)];rfl
 rw [e2] at k;exact k
theorem Qqd(base b:Nat)(s:List UInt8)(p:Nat)(ts cs:List Tok)(w:Aa)(hs:Scn base b s p ts cs w)(h2:p<s.length) :
 Ret PP 174 #[.pointer (some ⟨b,0,none⟩)] w fun v w'=>v = .tuple #[]∧Scn base b s (p+1) (nlTs p ts) cs w'∧Below base w w':=by
 obtain ⟨ta,tc,ca,cc,hs,k1,k2,k3,k4⟩:=hs.sa;have g:=G.refl w;have hb:Below base w w:=Below.refl _ _;refine WK 53 [0] Tryz.func174 ?_;refine Zj (Zj (Zl (Zv J (Vy J (Xg Qb J (Xl Un J (by first|exact (hs.grow g).B.at_ J) (Yha Vc J (Yr J (Ze (kq (Zj (Zl (Zv J (Vbf J J (Ze (kq (Wz J (fun h1=>?_) (fun h1=>?_))))))))))))))))));have hp:0<ts.length:=by simp only [Wpg] at h1;omega
 obtain ⟨ts0,t,ets⟩:∃ ts0 t,ts=ts0++[t]:=by
  rcases List.eq_nil_or_concat ts with e|⟨l,x,e⟩;rw [e] at hp;cases hp;exact ⟨l,x,by simpa using e⟩
 subst ets;obtain ⟨bt,ct,ev,_,hrow,_⟩:=Qva hs.ht hp;injection ev with e1 e2 e3;subst e1;have hrow':=Jhe hrow;have hne:nlTs p (ts0++[t])=if Yie t=true then (ts0++[t])++[⟨4,[59],p⟩] else ts0++[t]:=by simp [nlTs]
 refine Zj (Zl (Zv J (Vy J (Xg Qb J (Xl Un J (by first|exact (hs.grow g).B.at_ J) (Zv J (Zz J (fun _=>Xca (Zd J) Xa (fun _=>O)) (Xeb Vc J J O (Wm Uab J J (hrow') (AM fun _ _ _ _ g E=>?_))))))))));refine AS fun _ _ _ g E=>?_;refine AU ?_;refine CG (fun hc=>Vne _ _) (fun w30 g30=>?_);have g:=g.trans g30;replace E:=E.grow g30;refine Zz J (fun _=>Xd (Zd J) (Zp J id)) (Ze (kq (Wz J (fun h2=>?_) (fun h2=>?_))));rw [if_pos (show Yie t=true from h2)] at hne;have hl:(nlTs p (ts0++[t])).length≤p+1:=by rw [hne,Ala];exact Nat.succ_le_succ k1
 refine Xs [3,3,3,3,0,3,3,3,0,3,1,2,3,3,2] [true,true,true,true,true,true,true,true,true,true,true,true,true,true,true] [0,0,2,6,14,0,32,96,224,480,992,2046,4095,8191,16383] mix KR ?_;have g:=gdr g;replace E:=E.dr;refine Zv J (Zv J (Vy J (Xg Qb J (Xl Un J (by first|exact (hs.grow g).B.at_ J|exact E.g0.at_ J|exact E.g0.row) (Zv J (Vy J (Xg Ys J (Xl Yf J (by first|exact (hs.grow g).B.at_ J|exact E.g0.at_ J|exact E.g0.row) (Vfb Qr Uda (pqc J (pqc J (pqc J pq0))) J J (CN fun _ _ N42 _ g E=>?_))))))))));have hb:=hb.trans (Zza g hs.base_le);have hs:=hs.grow g;have hz0:=hs.base_le;refine Um J Vc Qr J Od (Zd J) hs.ht (Zd J) J N42.blk.row J (by simp only [maxLen];omega) O O ?_;intro ta' tc' w43 ht' hg43 hat;have hB:=hs.B.keep hg43 (Ne.symm hs.n1);have hz:=hg43.size;refine AU ?_;refine Xn J Yqa (Zd J) (Zd J) J J hB J J ?_;intro w44 hg44 hz44 hB;have hb:=Zqa (Zqa hb hg43 hs.base_le (fun k hk=>(hs.ht.lt k hk).1)) hg44 (by have:=hs.base_le;omega) (fun k hk=>by injection hk with hk;have:=hs.hb;omega);have hs:=hs.putT (t:=⟨4,[59],p⟩) ht' hg43 hat hg44 hB;have g:=G.refl w44;refine AU ?_;refine Xn J Wta (Zd J) (Zd J) J J (hs.grow g).B J J ?_;intro w52 hg52 hz52 hB;have hb:=Xrb hb g hg52 hs.base_le hs.hb;have hs:=(hs.grow g).setp (q:=p+1) hg52 hB;refine Ze (Yfa J ?_);refine ⟨rfl,?_,hb⟩;rw [hne] at hl ⊢;exact hs.scn hl O O k4;rw [if_neg (by intro h;rw [Yie,h2] at h;cases h)] at hne;have hl:(nlTs p (ts0++[t])).length≤p+1:=by rw [hne];omega
 refine AU ?_;refine Xn J Wta (Zd J) (Zd J) J J (hs.grow g).B J J ?_;intro w52 hg52 hz52 hB;have hb:=Xrb hb g hg52 hs.base_le hs.hb;have hs:=(hs.grow g).setp (q:=p+1) hg52 hB;refine Ze (Yfa J ?_);refine ⟨rfl,?_,hb⟩;rw [hne] at hl ⊢;exact hs.scn hl O O k4;have hp:ts=[]:=List.eq_nil_of_length_eq_zero (by simp only [Wqg] at h1;omega);have hne:nlTs p ts=ts:=by rw [hp];rfl
 have hl:(nlTs p ts).length≤p+1:=by rw [hne];omega
 refine AU ?_;refine Xn J Wta (Zd J) (Zd J) J J (hs.grow g).B J J ?_;intro w52 hg52 hz52 hB;have hb:=Xrb hb g hg52 hs.base_le hs.hb;have hs:=(hs.grow g).setp (q:=p+1) hg52 hB;refine Ze (Yfa J ?_);refine ⟨rfl,?_,hb⟩;rw [hne] at hl ⊢;exact hs.scn hl O O k4
def runN(q:Int→Bool):List UInt8→Nat
 | []=>0
 | c::l=>if q c.toNat=true then runN q l+1 else 0
theorem Qpc{q:Int→Bool}{s:List UInt8}{k:Nat}(h:k<s.length)(hq:q (s.getD k 0).toNat=true):runN q (s.drop k)=runN q (s.drop (k+1))+1:=by
 rw [Bja h,runN,if_pos (by simpa [Aea,Aca h] using hq)]
theorem Voe{q:Int→Bool}{s:List UInt8}{k:Nat}(h:k<s.length→q (s.getD k 0).toNat=false):runN q (s.drop k)=0:=by
 by_cases hk:k<s.length;rw [Bja hk,runN,if_neg];have:=h hk;simp [Aea,Aca hk] at this;simp [this];rw [Bia O];rfl
theorem Vhf(q:Int→Bool)(l:List UInt8):runN q l≤l.length:=by
 induction l with
 | nil=>exact Ada _
 | cons c l ih=>rw [runN];split <;> simp <;> omega
theorem Qrd(base b:Nat)(s:List UInt8)(p:Nat)(ts cs:List Tok)(w:Aa)(hs:Scn base b s p ts cs w)(f:Nat)(q:Int→Bool)(hgo:goFn PP f=true)(hf:∀ c w,Ret PP f #[.int .u8 c] w fun v w'=>v = .bool (q c)∧G w w') :
 Ret PP 176 #[.pointer (some ⟨b,0,none⟩),.func (.func f) #[] #[]] w fun v w'=>v = .int .i64 (runN q (s.drop p))∧G w w':=by
 obtain ⟨ta,tc,ca,cc,hs,k1,k2,k3,k4⟩:=hs.sa;have g:=G.refl w;refine WK 36 [0,1] Tryz.func176 ?_;refine AU ?_;refine Wqb (fun (n:Nat) u=>p+n≤s.length∧runN q (s.drop p)=n+runN q (s.drop (p+n))∧G w u) (fun n=>[(0,True,.pointer (some ⟨b,0,none⟩)),(1,True,.func (.func f) #[] #[]),(5,True,.int .i64 n)]) (fun n=>s.length-n) 0 ⟨O,by simp,g⟩ (Za J (Za J (Za J (Zr _)))) ?_;rintro n u ⟨hn,he,g⟩;refine AU ?_;refine Xs [3,3,3,0,3,3,3,3,3,0,3,3,3,3,3,3,3,0,3,3,3,0,3,3,3,1,3] [true,true,true,true,true,true,true,true,true,true,true,true,true,true,true,true,true,true,true,true,true,true,true,true,true,true,true] [0,1,3,7,0,31,0,64,192,448,960,2047,4095,8191,8191,24575,57343,122879,8191,270335,794623,1843199,8191,8134655,16769023,33554431,67108863] mix KR ?_;have g:=gdr g;refine AU ?_;refine Zk J J J (fun _=>Qsa Vl (Zp J id) (Zp J id) (fun hc=>by have:=Wrg hc.2;omega)) (Xu J J J (fun _=>(Zu hgo (Zp J id) (Ya (Zp J id) (Yl)) J)) (fun hc=>hf _ _) (fun w31 g31=>?_));have g:=g.trans g31;refine IF (fun h1=>?_) fun h1=>?_;simp only [Aka,Wpg] at h1;obtain ⟨h1,h2⟩:=h1;have e:((p:Int)+n).toNat=p+n:=by omega
 rw [e] at h2;have hst:=Qpc O h2;refine AU ?_;refine SK [0,1,5] ?_;refine Ze (fun a ha=>?_);exact ⟨n+1,ha,⟨O,by rw [he,hst,Nat.add_assoc p n 1];omega,g⟩,O⟩
 have hst:runN q (s.drop (p+n))=0:=Voe fun hk=>by
  have e:((p:Int)+n).toNat=p+n:=by omega
  rw [e,Wng (by omega:(p:Int)+n<s.length),Ava] at h1;exact h1
 refine RTN ?_;refine ⟨?_,g⟩;rw [he,hst];rfl
end Go.Rk
namespace Go.Rk
open Go.Proofs
open Go Go.Shelf Go.RowKit
def Yfd:Go.Shelf.Ren:=⟨fun|174=>183|247=>187|245=>188|287=>189|279=>190|280=>191|281=>192|282=>193|321=>194|322=>195|316=>196|171=>198|205=>197|243=>199|246=>200|283=>201|284=>202|285=>203|286=>204|129=>206|317=>205|318=>207|319=>208|320=>209|337=>210|338=>211|n=>n,fun|9=>9|3=>3|2=>2|75=>146|85=>147|4=>4|167=>152|5=>5|53=>120|175=>153|46=>155|168=>156|37=>160|0=>0|210=>162|21=>21|127=>164|145=>167|143=>165|171=>169|173=>172|212=>176|51=>177|20=>20|213=>178|232=>181|233=>182|80=>92|n=>n,fun|15=>8|16=>9|17=>10|18=>11|19=>12|n=>n⟩
theorem Wpd:Go.Proofs.LaysC.n174 PP Yfd:={
 mixed:=KR
 f129:=Tryz.func206.trans (congrArg some KR)
 f171:=Tryz.func198.trans (congrArg some KR)
 f174:=Tryz.func183.trans (congrArg some KR)
 f205:=Tryz.func197.trans (congrArg some KR)
 f243:=Tryz.func199.trans (congrArg some KR)
 f245:=Tryz.func188.trans (congrArg some KR)
 f246:=Tryz.func200.trans (congrArg some KR)
 f247:=Tryz.func187.trans (congrArg some KR)
 f279:=Tryz.func190.trans (congrArg some KR)
 f280:=Tryz.func191.trans (congrArg some KR)
 f281:=Tryz.func192.trans (congrArg some KR)
 f282:=Tryz.func193.trans (congrArg some KR)
 f283:=Tryz.func201.trans (congrArg some KR)
 f284:=Tryz.func202.trans (congrArg some KR)
 f285:=Tryz.func203.trans (congrArg some KR)
 f286:=Tryz.func204.trans (congrArg some KR)
 f287:=Tryz.func189.trans (congrArg some KR)
 f316:=Tryz.func196.trans (congrArg some KR)
 f317:=Tryz.func205.trans (congrArg some KR)
 f318:=Tryz.func207.trans (congrArg some KR)
 f319:=Tryz.func208.trans (congrArg some KR)
 f320:=Tryz.func209.trans (congrArg some KR)
 f321:=Tryz.func194.trans (congrArg some KR)
 f322:=Tryz.func195.trans (congrArg some KR)
 f337:=Tryz.func210.trans (congrArg some KR)
 f338:=Tryz.func211.trans (congrArg some KR)
 t0:=Tryz.underlying0
 a0:=Tryz.isAgg0
 z0:=Tryz.sizeOf0
 v0:=Tryz.zeroValue0
 t2:=Tryz.underlying2
 a2:=Tryz.isAgg2
 z2:=Tryz.sizeOf2
 v2:=Tryz.zeroValue2
 t3:=Tryz.underlying3
 a3:=Tryz.isAgg3
 z3:=Tryz.sizeOf3
 v3:=Tryz.zeroValue3
 t4:=Tryz.underlying4
 a4:=Tryz.isAgg4
 z4:=Tryz.sizeOf4
 v4:=Tryz.zeroValue4
 t5:=Tryz.underlying5
 a5:=Tryz.isAgg5
 z5:=Tryz.sizeOf5
 v5:=Tryz.zeroValue5
 t9:=Tryz.underlying9
 a9:=Tryz.isAgg9
 z9:=Tryz.sizeOf9
 v9:=Tryz.zeroValue9
 t20:=Tryz.underlying20
 a20:=Tryz.isAgg20
 z20:=Tryz.sizeOf20
 v20:=Tryz.zeroValue20
 t21:=Tryz.underlying21
 a21:=Tryz.isAgg21
 z21:=Tryz.sizeOf21
 v21:=Tryz.zeroValue21
 t37:=Tryz.underlying160
 a37:=Tryz.isAgg160
 z37:=Tryz.sizeOf160
 v37:=Tryz.zeroValue160
 t46:=Tryz.underlying155
 a46:=Tryz.isAgg155
 z46:=Tryz.sizeOf155
 v46:=Tryz.zeroValue155
 t51:=Tryz.underlying177
 a51:=Tryz.isAgg177
 z51:=Tryz.sizeOf177
 v51:=Tryz.zeroValue177
 t53:=Tryz.underlying120
 a53:=Tryz.isAgg120
 z53:=Tryz.sizeOf120
 v53:=Tryz.zeroValue120
 t75:=Tryz.underlying146
 a75:=Tryz.isAgg146
 z75:=Tryz.sizeOf146
 v75:=Tryz.zeroValue146
 t85:=Tryz.underlying147
 a85:=Tryz.isAgg147
 z85:=Tryz.sizeOf147
 v85:=Tryz.zeroValue147
 t127:=Tryz.underlying164
 a127:=Tryz.isAgg164
 z127:=Tryz.sizeOf164
 v127:=Tryz.zeroValue164
 t143:=Tryz.underlying165
 a143:=Tryz.isAgg165
 z143:=Tryz.sizeOf165
 v143:=Tryz.zeroValue165
 t145:=Tryz.underlying167
 a145:=Tryz.isAgg167
 z145:=Tryz.sizeOf167
 v145:=Tryz.zeroValue167
 t167:=Tryz.underlying152
 a167:=Tryz.isAgg152
 z167:=Tryz.sizeOf152
 v167:=Tryz.zeroValue152
 t168:=Tryz.underlying156
 a168:=Tryz.isAgg156
 z168:=Tryz.sizeOf156
 v168:=Tryz.zeroValue156
 t171:=Tryz.underlying169
 a171:=Tryz.isAgg169
 z171:=Tryz.sizeOf169
 v171:=Tryz.zeroValue169
 t173:=Tryz.underlying172
 a173:=Tryz.isAgg172
 z173:=Tryz.sizeOf172
 v173:=Tryz.zeroValue172
 t175:=Tryz.underlying153
 a175:=Tryz.isAgg153
 z175:=Tryz.sizeOf153
 v175:=Tryz.zeroValue153
 t210:=Tryz.underlying162
 a210:=Tryz.isAgg162
 z210:=Tryz.sizeOf162
 v210:=Tryz.zeroValue162
 t212:=Tryz.underlying176
 a212:=Tryz.isAgg176
 z212:=Tryz.sizeOf176
 v212:=Tryz.zeroValue176
 t213:=Tryz.underlying178
 a213:=Tryz.isAgg178
 z213:=Tryz.sizeOf178
 t232:=Tryz.underlying181
 a232:=Tryz.isAgg181
 z232:=Tryz.sizeOf181
 v232:=Tryz.zeroValue181
 t233:=Tryz.underlying182
 a233:=Tryz.isAgg182
 z233:=Tryz.sizeOf182
 v233:=Tryz.zeroValue182
 g15:=KR
 g16:=KR
 g17:=KR
 g18:=KR
 g19:=KR
 t80:=Tryz.underlying92
 a80:=Tryz.isAgg92
 z80:=Tryz.sizeOf92
 v80:=Tryz.zeroValue92
 i0:=KR
 i2:=KR
 i3:=KR
 i4:=KR
 i5:=KR
 i9:=KR
 i20:=KR
 i21:=KR
 i37:=KR
 i46:=KR
 i51:=KR
 i53:=KR
 i75:=KR
 i80:=KR
 i85:=KR
 i127:=KR
 i143:=KR
 i145:=KR
 i167:=KR
 i168:=KR
 i171:=KR
 i173:=KR
 i175:=KR
 i210:=KR
 i212:=KR
 i232:=KR
 i233:=KR
 m15:=KR
 m16:=KR
 m17:=KR
 m18:=KR
 m19:=KR
 c0:=KR
 c2:=KR
 c3:=KR
 c4:=KR
 c5:=KR
 c9:=KR
 c20:=KR
 c21:=KR
 c37:=KR
 c46:=KR
 c51:=KR
 c53:=KR
 c75:=KR
 c80:=KR
 c85:=KR
 c127:=KR
 c143:=KR
 c145:=KR
 c167:=KR
 c168:=KR
 c171:=KR
 c173:=KR
 c175:=KR
 c210:=KR
 c212:=KR
 c213:=KR
 c232:=KR
 c233:=by kernel_rfl }
def valN(a:Nat)(l:List UInt8):Nat:=l.foldl (fun a c=>a*10+(c.toNat-48)) a
def allD(l:List UInt8):Prop:=∀ c∈l,48≤c.toNat∧c.toNat≤57
theorem Qqc(a:Nat)(c:UInt8)(l:List UInt8):valN a (c::l)=valN (a*10+(c.toNat-48)) l:=List.foldl_cons ..
theorem Vif(l:List UInt8):∀ a,a≤valN a l:=by
 induction l with
 | nil=>exact fun a=>Ada _
 | cons c l ih=>intro a;have:=ih (a*10+(c.toNat-48));rw [Qqc];omega
theorem Ueb(M:Nat)(hM:M=18446744073709551615):∀ (l:List UInt8) (a:Nat),allD l→Lib.parseUintM M a l=if l=[] then .ok a else if valN a l≤M then .ok (valN a l) else .range
 | [],a,_=>rfl
 | c::l,a,h=>by
  have hc:=h c (Awa ..);have ih:=Ueb M hM l (a*10+(c.toNat-48)) (fun x hx=>h x (Bka _ hx));have hge:=Vif l (a*10+(c.toNat-48));rw [if_neg (by simp:¬ (c::l)=[]),Qqc];rw [Lib.parseUintM,if_pos hc];generalize hv:a*10+(c.toNat-48)=v at ih hge ⊢;by_cases h1:1844674407370955162≤a;rw [if_pos h1,if_neg O];rw [if_neg h1];by_cases h2:M<v;rw [if_pos h2,if_neg O];rw [if_neg h2,ih];by_cases hl:l=[];subst hl;rw [if_pos rfl];rw [if_pos (show valN v []≤M by show v≤M;omega)];rfl;rw [if_neg hl]
theorem Qfc(l:List UInt8)(h:allD l)(hne:l≠[]):Lib.parseIntB 64 l=if valN 0 l<9223372036854775808 then .ok (valN 0 l:Int) else .range:=by
 cases l with
 | nil=>exact absurd rfl hne
 | cons c r =>
  have hc:=h c (Awa ..);have e1:(2:Nat) ^ (64-1)=9223372036854775808:=by decide
  have e2:(2:Nat) ^ 64-1=18446744073709551615:=by decide
  have hm:=Ueb _ rfl (c::r) 0 h;rw [if_neg (by simp:¬ (c::r)=[])] at hm;simp only [Lib.parseIntB,Lib.parseUintB,e1,e2];rw [if_neg (by omega:¬ (c.toNat=43∨c.toNat=45)),if_neg (by simp:¬ (c::r)=[]),hm];by_cases h2:valN 0 (c::r)≤18446744073709551615;rw [if_pos h2];by_cases h3:valN 0 (c::r)<9223372036854775808;rw [if_pos h3];simp only [];rw [if_neg O,if_neg O,if_neg O];rw [if_neg h3];simp only [];rw [if_pos O];rw [if_neg h2,if_neg O]
theorem Jie(l:List UInt8)(h:allD l)(hne:l≠[])(hl:l.length≤20000)(w:Aa)(ev:Ga)(hv:w.cell? ⟨9,0,none⟩=some ev)(hev:ev = .nilIface∨∃ te pe,ev = .iface te pe) :
 Ret PP 183 #[Str l,.int .i64 10,.int .i64 64] w fun v w'=>(∃ x e,v = .tuple #[.int .i64 x,e]∧(e = .nilIface∨∃ a b,e = .iface a b)∧nilV e=decide (valN 0 l<9223372036854775808))∧G w w':=by
 have hp:=Qfc l h hne;by_cases h3:valN 0 l<9223372036854775808;rw [if_pos h3] at hp;refine (Go.Proofs.Any.strconv_ParseInt_10_at64_ok Wpd ⟨l.toArray⟩ (by simp [ByteArray.size];omega) _ (by simpa using hp) w).mono ?_;rintro e w' ⟨rfl,hw⟩;refine ⟨_,rfl,⟨_,.nilIface,rfl,.inl rfl,by rw [Wng h3];rfl⟩,?_⟩;rcases hw with rfl|⟨t,rfl⟩;exact G.refl _;exact Lib.bytesWorld_below _ _ _;rw [if_neg h3] at hp;refine (Go.Proofs.Any.strconv_ParseInt_10_at64_range Wpd ⟨l.toArray⟩ (by simp [ByteArray.size];omega) (by simpa using hp) ev w hv hev).mono ?_;rintro e w' ⟨N,rfl,_,_,hb⟩;exact ⟨_,rfl,⟨_,_,rfl,.inr ⟨_,_,rfl⟩,by rw [Wmg h3];rfl⟩,hb⟩
end Go.Rk
namespace Go.Rk
open Go.Proofs
open Go Go.RowKit
def opsL:List (List UInt8):=[[58,61],[61,61],[33,61],[60,61],[62,61],[38,38],[124,124],[60,45],[40],[41],[91],[93],[123],[125],[44],[59],[58],[46],[61],[60],[62],[43],[45],[42],[47],[37],[33]]
structure Laid (w:Aa):Prop where
  ops:RowAt w 7 0 (opsL.map Str)
  err:∃ ev,w.cell? ⟨9,0,none⟩=some ev∧(ev = .nilIface∨∃ te pe,ev = .iface te pe)
theorem Laid.below{w w':Aa}{base:Nat}(h:Laid w)(hb:10≤base)(g:Below base w w'):Laid w' :=
 ⟨fun j v hj=>(Below.cell g (show 7<base by omega)).trans (h.ops j v hj),by
 obtain ⟨ev,h1,h2⟩:=h.err;exact ⟨ev,(Below.cell g (show 9<base by omega)).trans h1,h2⟩⟩
theorem Laid.grow{w w':Aa}(h:Laid w)(g:G w w'):Laid w' :=
 ⟨h.ops.grow g,by
 obtain ⟨ev,h1,h2⟩:=h.err;exact ⟨ev,Jla g h1,h2⟩⟩
def cAt(s:List UInt8)(p:Nat):Int:=((s.getD p 0).toNat:Int)
def isNotLf(c:Int):Bool:=!decide (c=10)
def isAlnum(c:Int):Bool:=letterB c || digitB c
def Ufb(l:List UInt8):Nat:=match opsL.find? (fun o=>preB o l) with
 | some o=>o.length
 | none=>0
def badD(s:List UInt8)(p n:Nat):Bool:=(decide (cAt s p=48)&&decide ((1:Int)<n)) || (decide ((p:Int)+n<s.length)&&letterB (cAt s (p+n)))
def wordK(l:List UInt8):Int:=bif inB kws l then 3 else 1
def nextF(s:List UInt8)(p:Nat)(ts cs:List Tok):Nat×List Tok×List Tok×Int :=
 bif decide (cAt s p=10) then (p+1,nlTs p ts,cs,0)
 else bif (decide (cAt s p=32) || decide (cAt s p=9)) || decide (cAt s p=13) then (p+1,ts,cs,0)
 else bif preB [47,47] (s.drop p) then (p+runN isNotLf (s.drop p),ts,cs++[⟨5,(s.drop p).take (runN isNotLf (s.drop p)),p⟩],0)
 else bif letterB (cAt s p) then bif decide ((32:Int)<runN isAlnum (s.drop p)) then (p,ts,cs,3)
  else (p+runN isAlnum (s.drop p),ts++[⟨wordK ((s.drop p).take (runN isAlnum (s.drop p))),(s.drop p).take (runN isAlnum (s.drop p)),p⟩],cs,0)
 else bif digitB (cAt s p) then bif badD s p (runN digitB (s.drop p)) then (p,ts,cs,4)
  else bif decide (valN 0 ((s.drop p).take (runN digitB (s.drop p)))<9223372036854775808) then (p+runN digitB (s.drop p),ts++[⟨2,(s.drop p).take (runN digitB (s.drop p)),p⟩],cs,0) else (p,ts,cs,4)
 else bif Aaa (Ufb (s.drop p)) 0 then (p,ts,cs,4)
 else (p+Ufb (s.drop p),ts++[⟨4,(s.drop p).take (Ufb (s.drop p)),p⟩],cs,0)
theorem Qia{q:Int→Bool}{s:List UInt8}{p:Nat}(h:p<s.length)(hq:q (cAt s p)=true):1≤runN q (s.drop p):=by rw [Qpc h hq];omega
theorem Jhb(q:Int→Bool){s:List UInt8}{p:Nat}(h:p<s.length):p+runN q (s.drop p)≤s.length:=by
 have:=Vhf q (s.drop p);rw [Axa] at this;omega
theorem Wxc(q:Int→Bool):∀ (l:List UInt8),∀ c∈l.take (runN q l),q c.toNat=true
 | [],c,hc=>by cases hc
 | a::l,c,hc=>by
  rw [runN] at hc;split at hc;rename_i h;rw [Bla] at hc;rcases List.mem_cons.mp hc with rfl|hc;exact h;exact Wxc q l c hc;cases hc
theorem Wqd(s:List UInt8)(p:Nat):allD ((s.drop p).take (runN digitB (s.drop p))):=fun c hc=>by
 have:=Wxc digitB _ c hc;simp only [digitB,Aka,Wpg] at this;omega
theorem Vjf{i:Nat}(h:i<27):(opsL.map Str).toArray[i]? = some (Str (opsL.getD i [])):=by
 have hl:opsL.length=27:=rfl;simp [Aea,Aca (show i<opsL.length by omega)]
theorem Jje:∀ i<27,1≤(opsL.getD i []).length:=by decide
theorem Qsd{l:List UInt8}{i:Nat}(h:i<27)(h1:∀ j<i,preB (opsL.getD j []) l=false)(h2:preB (opsL.getD i []) l=true):Ufb l=(opsL.getD i []).length:=by
 have hl:opsL.length=27:=rfl
 have:opsL.find? (fun o=>preB o l)=some (opsL.getD i []):=by
  rw [Bma];refine ⟨h2,i,O,?_,fun j hj=>?_⟩;simp [Aea,Aca (show i<opsL.length by omega)];have:=h1 j hj;simp [Aea,Aca (show j<opsL.length by omega)] at this;simp [this]
 rw [Ufb,this]
theorem Qtd{l:List UInt8}(h1:∀ j<27,preB (opsL.getD j []) l=false):Ufb l=0:=by
 have hl:opsL.length=27:=rfl
 have:opsL.find? (fun o=>preB o l)=none:=by
  rw [Bna];intro o ho;obtain ⟨j,hj,rfl⟩:=Asa ho;have:=h1 j O;simp [Aea,Aca hj] at this;simp [this]
 rw [Ufb,this]
theorem Jke{o l:List UInt8}(h:preB o l=true):o.length≤l.length∧l.take o.length=o:=by
 simpa [preB] using h
theorem Vkf(base b:Nat)(hb3:10≤base)(s:List UInt8)(p:Nat)(ts cs:List Tok)(w:Aa)(hL:Laid w)(hs:Scn base b s p ts cs w)(hp:p<s.length) :
 Ret PP 168 #[.pointer (some ⟨b,0,none⟩)] w fun v w'=>v = .int .i64 (nextF s p ts cs).2.2.2∧Scn base b s (nextF s p ts cs).1 (nextF s p ts cs).2.1 (nextF s p ts cs).2.2.1 w'∧Below base w w':=by
 obtain ⟨ta,tc,ca,cc,hs,k1,k2,k3,k4⟩:=hs.sa;have g:=G.refl w;refine Vo (m:=204) Tryz.func168 J J [(0,True,_)] (Za J (Zr _)) ?_;refine Zj (Zl (Yr J (Ze (kq (Zj (Xs [3,3,3,0,3,3,3,0,3,3] [true,true,true,true,true,true,true,true,true,true] [0,1,3,7,0,16,48,112,255,511] mix KR ?_))))));have g:=gdr g;refine Zv J (Vy J (Xg Wq J (Xl Yy J (by first|exact (hs.grow g).B.at_ J) (Zv J (Vy J (Xg Ys J (Xl Yf J (by first|exact (hs.grow g).B.at_ J) (Zz J (fun _=>Qsa Vl (Zd J) (Zd J) (fun _=>O)) (Yr J (Ze (kq (Zj (Yx (Zj (Zl (Zv J (?_)))))))))))))))));refine Zea J J (Yr J (Ze (kq (Wz J (fun h1=>?_) (fun h1=>?_)))));replace h1:decide (cAt s p=10)=true:=h1;have hN:nextF s p ts cs=(p+1,nlTs p ts,cs,0):=by unfold nextF;rw [h1];rfl
 refine Zl (Zv J (CL (Qqd base b s p ts cs _ ((hs.grow g).scn k1 k2 k3 k4) hp) ?_));rintro v45 w45 ⟨rfl,hs',hb'⟩;refine ⟨nw1,?_⟩;have hb':=(Zza g hs.base_le).trans hb';refine Ze (kq (Zj (Zl (Yr J (Ze (kq (Xo (Wj J J ?_))))))));rw [hN];exact ⟨rfl,hs',hb'⟩;replace h1:decide (cAt s p=10)=false:=h1;refine Zj (Zl (Zv J (Zea J J (Zv J (Zk J J J (fun _=>Zw (Zd J)) (Zk J J J (fun _=>Zoa (Zp J id) Xa) (Zz J (fun _=>Xd (Zd J) (Zp J id)) (Zv J (Zk J J J (fun _=>Zw (Zd J)) (Zk J J J (fun _=>Zoa (Zp J id) Xa) (Zz J (fun _=>Xd (Zd J) (Zp J id)) (Yr J (Ze (kq (Wz J (fun h2=>?_) (fun h2=>?_))))))))))))))));replace h2:((decide (cAt s p=32) || decide (cAt s p=9)) || decide (cAt s p=13))=true:=h2;have hN:nextF s p ts cs=(p+1,ts,cs,0):=by unfold nextF;rw [h1,h2];rfl
 refine Zl (Zv J (Vy J (Xg Ys J (Xl Yf J (by first|exact (hs.grow g).B.at_ J) (Jga J J O (Vy J (Xg Ys J (Xn J Wta (Zd J) (Zd J) J J (hs.grow g).B J J ?_))))))));intro w63 hg63 hz63 hB;have hb':=Xrb (Below.refl _ _) g hg63 hs.base_le hs.hb;have hs':=((hs.grow g).setp (q:=p+1) hg63 hB).scn O O O k4;refine Ze (kq (Zj (Zl (Yr J (Ze (kq (Xo (Wj J J ?_))))))));rw [hN];exact ⟨rfl,hs',hb'⟩;replace h2:((decide (cAt s p=32) || decide (cAt s p=9)) || decide (cAt s p=13))=false:=h2;refine Zj (Xs [3,3,3,0,3,3,3,0,3,1,3] [true,true,true,true,true,true,true,true,true,true,true] [0,1,3,7,0,16,48,112,255,511,1023] mix KR ?_);have g:=gdr g;refine Zv J (Vy J (Xg Wq J (Xl Yy J (by first|exact (hs.grow g).B.at_ J) (Zv J (Vy J (Xg Ys J (Xl Yf J (by first|exact (hs.grow g).B.at_ J) (Zz J (fun _=>Ywb Vl (Zd J) (Zd J) (fun _=>O)) (Wy J (Zu Wga Xy (aqc J (aqc J aq0)) J) (Udb _ _ _) (fun w74 g74=>?_))))))))));have g:=g.trans g74;refine Yr J (Ze (kq (Wz J (fun h3=>?_) (fun h3=>?_))));replace h3:preB [47,47] (s.drop p)=true:=h3;have hn:=Qia (q:=isNotLf) hp (by rw [isNotLf,h1];rfl);have hf:=Jhb isNotLf hp;have hN:nextF s p ts cs=(p+runN isNotLf (s.drop p),ts,cs++[⟨5,(s.drop p).take (runN isNotLf (s.drop p)),p⟩],0):=by unfold nextF;rw [h1,h2,h3];rfl
 have e:((p:Int)+(runN isNotLf (s.drop p):Nat)).toNat-(p:Int).toNat=runN isNotLf (s.drop p):=by omega
 refine Zj (Zl (Zv J (Wy J (Zu Yia Xy (aqc J (aqc J aq0)) J) (Qrd base b s p ts cs _ ((hs.grow g).scn k1 k2 k3 k4) _ isNotLf Zsb Jfe) (fun w76 g76=>?_))));have g:=g.trans g76;refine Yr J (Ze (kq (Zj (Xs [3,3,3,3,0,3,3,3,0,3,3,3,0,3,3,3,0,3,3,3,3,3,3,0,3,1,2,3,3,2] [true,true,true,true,true,true,true,true,true,true,true,true,true,true,true,true,true,true,true,true,true,true,true,true,true,true,true,true,true,true] [0,0,2,6,14,0,32,96,224,0,512,1536,3584,0,8192,24576,57344,0,253952,524256,0,1048576,3145728,7340032,16777184,33554400,67108862,134217727,268435455,536870911] mix KR ?_))));have g:=gdr g;refine Zv J (Zv J (Vy J (Xg Xja J (Xl Un J (by first|exact (hs.grow g).B.at_ J) (Zv J (Vy J (Xg Wq J (Xl Yy J (by first|exact (hs.grow g).B.at_ J) (Zv J (Vy J (Xg Ys J (Xl Yf J (by first|exact (hs.grow g).B.at_ J) (Zv J (Vy J (Xg Ys J (?_))))))))))))))));refine Xl Yf J (by first|exact (hs.grow g).B.at_ J) (Zv J (Jga J J O (Zz J (fun _=>Zdc Vl (Zd J) (Zd J) (Zd J) (fun _=>O)) (Zv J (Vy J (Xg Ys J (Xl Yf J (by first|exact (hs.grow g).B.at_ J) (Vfb Qr Uda (pqc J (pqc J (pqc J pq0))) J J (CM fun _ _ N102 _ g E=>?_)))))))));have hb:=Zza g hs.base_le;have hs:=hs.grow g;have hz0:=hs.base_le;refine Um J Vc Qr J Od (Zd J) hs.hc (Zd J) J N102.blk.row J (by simp only [maxLen];omega) O O ?_;intro ca' cc' w103 hc' hg103 hat;have hB:=hs.B.keep hg103 (Ne.symm hs.n2);have hz:=hg103.size;refine Vy J (Xg Xja J (Xn J Yqa (Zd J) (Zd J) J J hB J J ?_));intro w105 hg105 hz105 hB
 have hb:=Zqa (Zqa hb hg103 hs.base_le (fun k hk=>(hs.hc.lt k hk).1)) hg105 (by have:=hs.base_le;omega) (fun k hk=>by injection hk with hk;have:=hs.hb;omega);rw [e] at hc';have hs:=hs.putC (t:=⟨5,(s.drop p).take (runN isNotLf (s.drop p)),p⟩) hc' hg103 hat hg105 hB;have g:=G.refl w105;refine Ze (kq (Zl (Zv J (Vy J (Xg Ys J (Xl Yf J (by first|exact (hs.grow g).B.at_ J|exact E.g0.at_ J|exact E.g0.row) (Zv J (Jga J J O (Vy J (Xg Ys J (Xn J Wta (Zd J) (Zd J) J J (hs.grow g).B J J ?_)))))))))));intro w113 hg113 hz113 hB;have hb':=Xrb hb g hg113 hs.base_le hs.hb;have hs':=((hs.grow g).setp (q:=p+runN isNotLf (s.drop p)) hg113 hB).scn O (by rw [Ala];show cs.length+1≤_;omega) hf k4;refine Wx [(2,_,_)] (Za J (Zr _)) (Ze (kq (Zj (Zl (Yr J (Ze (kq (Xo (Wj J J ?_)))))))));rw [hN];exact ⟨rfl,hs',hb'⟩;replace h3:preB [47,47] (s.drop p)=false:=h3;refine Zj (Zl (Zv J (Wy J (Zu Xjb Xy (aqc J aq0) J) (Zsc _ _) (fun w116 g116=>?_))));have g:=g.trans g116;refine Yr J (Ze (kq (Wz J (fun h4=>?_) (fun h4=>?_))));replace h4:letterB (cAt s p)=true:=h4;have hn:=Qia (q:=isAlnum) hp (by rw [isAlnum,h4];rfl);have hf:=Jhb isAlnum hp;have e:((p:Int)+(runN isAlnum (s.drop p):Nat)).toNat-(p:Int).toNat=runN isAlnum (s.drop p):=by omega
 refine Zj (Zl (Zv J (Wy J (Zu Yia Xy (aqc J (aqc J aq0)) J) (Qrd base b s p ts cs _ ((hs.grow g).scn k1 k2 k3 k4) _ isAlnum Ztb Jge) (fun w118 g118=>?_))));have g:=g.trans g118;refine Yr J (Ze (kq (Zj (Zj (Zl (Zv J (Vbf J J (Ze (kq (Wz J (fun h5=>?_) (fun h5=>?_)))))))))));have hN:nextF s p ts cs=(p,ts,cs,3):=by unfold nextF;rw [h1,h2,h3,h4,h5];rfl
 have hs':=(hs.grow g).scn k1 k2 k3 k4;have hb':=Zza g hs.base_le;refine Zj (Zl (Yr J (Ze (kq (Xo (Wj J J ?_))))));rw [hN];exact ⟨rfl,hs',hb'⟩;refine Yw (kq (Zj (Zl (Yr J (Ze (kq (Zj (Zj (Xs [3,3,3,0,3,3,3,0,3,3,3,0,3,3,3,1] [true,true,true,true,true,true,true,true,true,true,true,true,true,true,true,true] [0,1,3,7,0,16,48,112,0,256,768,1792,0,7936,16383,32767] mix KR ?_)))))))));have g:=gdr g;refine Zv J (Vy J (Xg Wq J (Xl Yy J (by first|exact (hs.grow g).B.at_ J) (Zv J (Vy J (Xg Ys J (Xl Yf J (by first|exact (hs.grow g).B.at_ J) (Zv J (Vy J (Xg Ys J (Xl Yf J (by first|exact (hs.grow g).B.at_ J) (Zv J (Jga J J O (Zz J (fun _=>Zdc Vl (Zd J) (Zd J) (Zd J) (fun _=>O)) (Wy J (Zu Xkc Xy (aqc J aq0) J) (Qpd _ _) (fun w136 g136=>?_))))))))))))))));have g:=g.trans g136;refine Ze (kq (Wz J (fun h6=>?_) (fun h6=>?_)));rw [e] at h6;replace h6:inB kws ((s.drop p).take (runN isAlnum (s.drop p)))=true:=h6;have hN:nextF s p ts cs=(p+runN isAlnum (s.drop p),ts++[⟨3,(s.drop p).take (runN isAlnum (s.drop p)),p⟩],cs,0):=by unfold nextF;rw [h1,h2,h3,h4,h5,wordK,h6];rfl
 refine Zl (Yr J (Ze (kq (Zl (Zv J (Zv J (Zv J (CL (Yed base b s p ts cs _ _ _ ((hs.grow g).scn k1 k2 k3 k4) hn hf) ?_))))))));rintro v140 w140 ⟨rfl,hs',hb'⟩;refine ⟨nw1,?_⟩;have hb':=(Zza g hs.base_le).trans hb';refine Ze (kq (Zj (Zl (Yr J (Ze (kq (Xo (Wj J J ?_))))))));rw [hN];exact ⟨rfl,hs',hb'⟩;rw [e] at h6;replace h6:inB kws ((s.drop p).take (runN isAlnum (s.drop p)))=false:=h6;have hN:nextF s p ts cs=(p+runN isAlnum (s.drop p),ts++[⟨1,(s.drop p).take (runN isAlnum (s.drop p)),p⟩],cs,0):=by unfold nextF;rw [h1,h2,h3,h4,h5,wordK,h6];rfl
 refine Yw (kq (Zl (Zv J (Zv J (Zv J (CL (Yed base b s p ts cs _ _ _ ((hs.grow g).scn k1 k2 k3 k4) hn hf) ?_))))));rintro v140 w140 ⟨rfl,hs',hb'⟩;refine ⟨nw1,?_⟩;have hb':=(Zza g hs.base_le).trans hb';refine Ze (kq (Zj (Zl (Yr J (Ze (kq (Xo (Wj J J ?_))))))));rw [hN];exact ⟨rfl,hs',hb'⟩;replace h4:letterB (cAt s p)=false:=h4;refine Zj (Zl (Zv J (Wy J (Zu Vxb Xy (aqc J aq0) J) (Wwc _ _) (fun w143 g143=>?_))));have g:=g.trans g143;refine Yr J (Ze (kq (Wz J (fun h7=>?_) (fun h7=>?_))));replace h7:digitB (cAt s p)=true:=h7;have hn:=Qia (q:=digitB) hp h7;have hf:=Jhb digitB hp;have e:((p:Int)+(runN digitB (s.drop p):Nat)).toNat-(p:Int).toNat=runN digitB (s.drop p):=by omega
 refine Zj (Zl (Zv J (Wy J (Zu Yia Xy (aqc J (aqc J aq0)) J) (Qrd base b s p ts cs _ ((hs.grow g).scn k1 k2 k3 k4) _ digitB Vxb Wwc) (fun w145 g145=>?_))));have g:=g.trans g145;refine Yr J (Ze (kq (Zj (Zj (Xs [3,3,3,3,3,3,3,3,3,3,0,3,3,3,3,3,0,3,3,3,3,3,3,0,3,3,3,0,3,3,3,1,3,3] [true,true,true,true,true,true,true,true,true,true,true,true,true,true,true,true,true,true,true,true,true,true,true,true,true,true,true,true,true,true,true,true,true,true] [0,1,3,7,15,31,63,127,255,511,1023,127,4095,127,8319,24703,57471,123007,262143,524287,1048575,2097151,4194303,8388607,1048575,17825791,51380223,118489087,1048575,521142271,1073741823,2147483647,4294967295,8589934591] mix KR ?_)))));have g:=gdr g;refine Zv J (Zea J J (Zv J (Zk J J J (fun _=>Zw (Zd J)) (Zk J J J (fun _=>Qlc (Zp J id) Xa) (Zz J (fun _=>Yn (Zd J) (Zp J id)) (Zv J (Zk J J J (fun _=>Zw (Zd J)) (Zk J J J (fun _=>Zna (Zp J id)) (Zk J J J (fun _=>Zi Ys (Zp J id)) (Yg J J J (Zq Yf (Zp J id) (fun _=>by first|exact (hs.grow g).B.at_ J)) (Zk J J J (fun _=>Zw (Zd J)) (Zk J J J (fun _=>Ukb (Zp J id) (Zp J id) (fun _=>O)) (Zk J J J (fun _=>Zw (Zd J)) (Zk J J J (fun _=>Zna (Zp J id)) (Zk J J J (fun _=>Zi Wq (Zp J id)) (?_))))))))))))))))
 refine Yg J J J (Zq Yy (Zp J id) (fun _=>by first|exact (hs.grow g).B.at_ J)) (Zk J J J (fun _=>Qjb Vl (Zp J id)) (Zk J J J (fun _=>Qkc (Zp J id) (Zp J id)) (Zk J J J (fun _=>Zw (Zp J id)) (Zk J J J (fun _=>Zw (Zd J)) (Zk J J J (fun _=>Zna (Zp J id)) (Zk J J J (fun _=>Zi Wq (Zp J id)) (Yg J J J (Zq Yy (Zp J id) (fun _=>by first|exact (hs.grow g).B.at_ J)) (Zk J J J (fun _=>Zw (Zd J)) (Zk J J J (fun _=>Zna (Zp J id)) (Zk J J J (fun _=>Zi Ys (Zp J id)) (Yg J J J (Zq Yf (Zp J id) (fun _=>by first|exact (hs.grow g).B.at_ J)) (Zk J J J (fun _=>Zw (Zd J)) (Zk J J J (fun _=>Ukb (Zp J id) (Zp J id) (fun _=>O)) (Zk J J J (fun _=>Qsa Vl (Zp J id) (Zp J id) (fun hc=>by have:=Wrg hc.2;omega)) (Xu J J J (fun _=>(Zu Xjb Xy (Ya (Zp J id) (Yl)) J)) (fun hc=>Zsc _ _) (fun w177 g177=>?_))))))))))))))));have g:=g.trans g177;refine Zk J J J (fun _=>Yn (Zp J id) (Zp J id)) (Zz J (fun _=>Xd (Zd J) (Zp J id)) (Wx [(0,_,_),(2,_,_),(7,_,_),(179,_,_)] (Za J (Za J (Za J (Za J (Zr _))))) (Ze (kq (Wz J (fun h8=>?_) (fun h8=>?_))))));replace h8:badD s p (runN digitB (s.drop p))=true:=h8;have hN:nextF s p ts cs=(p,ts,cs,4):=by unfold nextF;rw [h1,h2,h3,h4,h7,h8];rfl
 have hs':=(hs.grow g).scn k1 k2 k3 k4;have hb':=Zza g hs.base_le;refine Zj (Zl (Yr J (Ze (kq (Xo (Wj J J ?_))))));rw [hN];exact ⟨rfl,hs',hb'⟩;replace h8:badD s p (runN digitB (s.drop p))=false:=h8;obtain ⟨ev,he1,he2⟩:=hL.err;have hdl:((s.drop p).take (runN digitB (s.drop p))).length=runN digitB (s.drop p):=by rw [Bba,Axa];omega
 refine Yw (kq (Zj (Zj (Xs [3,3,3,0,3,3,3,0,3,3,3,0,3,3,3,1,3,3,3,3,3] [true,true,true,true,true,true,true,true,true,true,true,true,true,true,true,true,true,true,true,true,true] [0,1,3,7,0,16,48,112,0,256,768,1792,0,7936,16383,32767,65535,131071,131071,262143,1048575] mix KR ?_))));have g:=gdr g;refine Zv J (Vy J (Xg Wq J (Xl Yy J (by first|exact (hs.grow g).B.at_ J) (Zv J (Vy J (Xg Ys J (Xl Yf J (by first|exact (hs.grow g).B.at_ J) (Zv J (Vy J (Xg Ys J (Xl Yf J (by first|exact (hs.grow g).B.at_ J) (Zv J (Jga J J O (Zz J (fun _=>Zdc Vl (Zd J) (Zd J) (Zd J) (fun _=>O)) (Xm J (Zu Vib Xy (aqc J (aqc J (aqc J aq0))) J) (Jie _ (by rw [e];exact Wqd s p) (by rw [e];intro h0;have h0:=congrArg List.length h0;rw [show (List.take (runN digitB (s.drop p)) (List.drop (p:Int).toNat s)).length=runN digitB (s.drop p) from hdl] at h0;simp at h0;omega) (by rw [e];show ((s.drop p).take (runN digitB (s.drop p))).length≤20000;omega) _ ev (Jla g he1) he2) ?_)))))))))))))));rintro v196 w196 ⟨⟨x,er,rfl,her,hnil⟩,g196⟩;refine ⟨fun _=>g196,?_⟩;have g:=g.trans g196;replace hnil:nilV er=decide (valN 0 ((s.drop p).take (runN digitB (s.drop p)))<9223372036854775808):=by rw [e] at hnil;exact hnil
 refine Zv J (Qo J J (Qo J J (Yr J (Yr J (Ze (kq (Zj (Zl (Zv J (Zz J (fun _=>Qjd Wjd (Zd J) her) (Ze (kq (Wz J (fun h9=>?_) (fun h9=>?_))))))))))))));have h9:decide (valN 0 ((s.drop p).take (runN digitB (s.drop p)))<9223372036854775808)=false:=by replace h9:(!nilV er)=true:=h9;rw [hnil] at h9;simpa using h9
 have hN:nextF s p ts cs=(p,ts,cs,4):=by unfold nextF;rw [h1,h2,h3,h4,h7,h8,h9];rfl
 have hs':=(hs.grow g).scn k1 k2 k3 k4;have hb':=Zza g hs.base_le;refine Zj (Zl (Yr J (Ze (kq (Xo (Wj J J ?_))))));rw [hN];exact ⟨rfl,hs',hb'⟩;have h9:decide (valN 0 ((s.drop p).take (runN digitB (s.drop p)))<9223372036854775808)=true:=by replace h9:(!nilV er)=false:=h9;rw [hnil] at h9;simpa using h9
 have hN:nextF s p ts cs=(p+runN digitB (s.drop p),ts++[⟨2,(s.drop p).take (runN digitB (s.drop p)),p⟩],cs,0):=by unfold nextF;rw [h1,h2,h3,h4,h7,h8,h9];rfl
 refine Yw (kq (Zl (Zv J (Zv J (CL (Yed base b s p ts cs _ _ _ ((hs.grow g).scn k1 k2 k3 k4) hn hf) ?_)))));rintro v203 w203 ⟨rfl,hs',hb'⟩;refine ⟨nw1,?_⟩;have hb':=(Zza g hs.base_le).trans hb';refine Ze (kq (Zj (Zl (Yr J (Ze (kq (Xo (Wj J J ?_))))))));rw [hN];exact ⟨rfl,hs',hb'⟩;replace h7:digitB (cAt s p)=false:=h7;refine Zj (Zj (Zl (Wm Ucb J J ((hL.grow g).ops) (Zv J (Ze (kq (Yx (Wqb (fun (i:Nat) u=>i≤27∧(∀ j<i,preB (opsL.getD j []) (s.drop p)=false)∧G w u) (fun i=>[(0,True,.pointer (some ⟨b,0,none⟩)),(21,True,.agg (opsL.map Str).toArray),(22,True,.int .i64 i)]) (fun i=>27-i) 0 ⟨O,by intro j hj;omega,g⟩ (Za J (Za J (Za J (Zr _)))) ?_))))))));rintro i u ⟨hi,hpre,g⟩;refine Zj (Zl (Uua J J (Ze (kq (Zj (Wz J (fun h10=>?_) (fun h10=>?_)))))));simp only [Wpg] at h10;have hi27:i<27:=by omega
 refine Yw (kq (Zj (Yx (Zj (Zl (Zz J (fun _=>Yee Zzd (Zd J) (Zd J) (fun _=>O) (fun _=>Vjf hi27)) (Yr J (Ze (kq (Zj (Xs [3,3,3,0,3,3,3,0,3,3,1] [true,true,true,true,true,true,true,true,true,true,true] [0,1,3,7,0,16,48,112,255,0,1023] mix KR ?_)))))))))));have g:=gdr g;refine Zv J (Vy J (Xg Wq J (Xl Yy J (by first|exact (hs.grow g).B.at_ J) (Zv J (Vy J (Xg Ys J (Xl Yf J (by first|exact (hs.grow g).B.at_ J) (Zz J (fun _=>Ywb Vl (Zd J) (Zd J) (fun _=>O)) (Zv J (Wy J (Zu Wga Xy (aqc J (aqc J aq0)) J) (Udb _ _ _) (fun w35 g35=>?_)))))))))));have g:=g.trans g35;refine Ze (kq (Wz J (fun h11=>?_) (fun h11=>?_)));replace h11:preB (opsL.getD i []) (s.drop p)=true:=h11;have h0:=Qsd hi27 hpre h11;have hn:=Jje i hi27;have hf:p+(opsL.getD i []).length≤s.length:=by have:=(Jke h11).1;rw [Axa] at this;omega
 have hN:nextF s p ts cs=(p+(opsL.getD i []).length,ts++[⟨4,(s.drop p).take (opsL.getD i []).length,p⟩],cs,0):=by
  unfold nextF;rw [h1,h2,h3,h4,h7,h0,show Aaa (opsL.getD i []).length 0=false by rw [Bool.eq_false_iff];intro h;have:=Boa h;omega];rfl
 refine Zj (Zl (Zv J (Zv J (Zz J (fun _=>Qjb Vl (Zd J)) (CL (Yed base b s p ts cs _ _ _ ((hs.grow g).scn k1 k2 k3 k4) hn hf) ?_)))));rintro v39 w39 ⟨rfl,hs',hb'⟩;refine ⟨nw1,?_⟩;have hb':=(Zza g hs.base_le).trans hb';refine Ze (kq (Zj (Zl (Yr J (Ze (kq (Xo (Wj J J ?_))))))));rw [hN];exact ⟨rfl,hs',hb'⟩;refine Yw (kq (Zl (Jga J J O (Zv J (Wx [(0,_,_),(21,_,_),(22,_,_)] (Za J (Za J (Za J (Zr _)))) (Ze (fun a ha=>?_)))))))
 exact ⟨i+1,ha,⟨O,by
  intro j hj;by_cases e:j=i;rw [e];exact h11;exact hpre j O,g⟩,O⟩
 simp only [Wqg] at h10;have hi27:i=27:=by omega
 subst hi27;have h0:=Qtd hpre;have hN:nextF s p ts cs=(p,ts,cs,4):=by unfold nextF;rw [h1,h2,h3,h4,h7,h0];rfl
 have hs':=(hs.grow g).scn k1 k2 k3 k4;have hb':=Zza g hs.base_le;refine Xea J (kq (Zj (Zl (Yr J (Ze (kq (Xo (Wj J J ?_))))))));rw [hN];exact ⟨rfl,hs',hb'⟩
def goF(s:List UInt8):Nat→Nat→List Tok→List Tok→Nat×List Tok×List Tok×Int
 | 0,p,ts,cs=>(p,ts,cs,0)
 | f+1,p,ts,cs=>bif decide (p<s.length) then bif decide ((nextF s p ts cs).2.2.2=0) then goF s f (nextF s p ts cs).1 (nextF s p ts cs).2.1 (nextF s p ts cs).2.2.1 else nextF s p ts cs else (p,ts,cs,0)
def allF(s:List UInt8):Nat×List Tok×List Tok×Int:=bif decide ((20000:Int)<s.length) then (0,[],[],3) else goF s s.length 0 [] []
theorem Jle{s:List UInt8}{p:Nat}{ts cs:List Tok}(h:p<s.length)(he:(nextF s p ts cs).2.2.2=0):p<(nextF s p ts cs).1:=by
 unfold nextF at he ⊢;cases h1:decide (cAt s p=10);cases h2:((decide (cAt s p=32) || decide (cAt s p=9)) || decide (cAt s p=13));cases h3:preB [47,47] (s.drop p);cases h4:letterB (cAt s p);cases h7:digitB (cAt s p);cases h8:Aaa (Ufb (s.drop p)) 0;simp only [Wug,Wtg];have:Ufb (s.drop p)≠0:=by intro h0;rw [h0] at h8;cases h8
 omega;rw [h1,h2,h3,h4,h7,h8] at he;simp at he;have:=Qia (q:=digitB) h h7;rw [h1,h2,h3,h4,h7] at he;cases h8:badD s p (runN digitB (s.drop p));rw [h8] at he;cases h9:decide (valN 0 ((s.drop p).take (runN digitB (s.drop p)))<9223372036854775808);rw [h9] at he;simp at he;simp only [Wug,Wtg];omega;rw [h8] at he;simp at he;have:=Qia (q:=isAlnum) h (by rw [isAlnum,h4];rfl);rw [h1,h2,h3,h4] at he;cases h5:decide ((32:Int)<runN isAlnum (s.drop p));simp only [Wug,Wtg];omega;rw [h5] at he;simp at he;have:=Qia (q:=isNotLf) h (by rw [isNotLf,h1];rfl);simp only [Wug,Wtg];omega;simp only [Wug,Wtg];omega;simp only [Wug,Wtg];omega
theorem Ztg(s:List UInt8)(w:Aa)(hL:Laid w)(hb3:10≤w.heap.size) :
 Ret PP 156 #[Str s] w fun v w'=>∃ b ta tc ca cc,v = .tuple #[.pointer (some ⟨b,0,none⟩),.int .i64 (allF s).2.2.2]∧SA w.heap.size b s (allF s).1 (allF s).2.1 (allF s).2.2.1 ta tc ca cc w'∧G w w':=by
 have g:=G.refl w;refine WK 27 [0] Tryz.func156 ?_;refine BM fun b8 w8 _ l8 g E=>?_;refine IF (fun h1=>?_) fun h1=>?_;have hN:allF s=(0,[],[],3):=by unfold allF;rw [h1];rfl
 refine RTN ?_;rw [hN];exact ⟨b8,none,0,none,0,rfl,⟨E.g0,l8,Je _ _ _ _,Je _ _ _ _,(by intro h;cases h),(by intro h;cases h),(by intro k h;cases h)⟩,g⟩;have hN:allF s=goF s s.length 0 [] []:=by unfold allF;rw [h1];rfl
 simp only [Wqg] at h1;refine Yw (kq (Zj (Yx (?_))))
 refine Wqb (fun (x:Nat×List Tok×List Tok×Nat) u=>Scn w.heap.size b8 s x.1 x.2.1 x.2.2.1 u∧s.length-x.1≤x.2.2.2∧goF s x.2.2.2 x.1 x.2.1 x.2.2.1=goF s s.length 0 [] []∧G w u) (fun _=>[(0,True,Str s),(4,True,.pointer (some ⟨b8,0,none⟩))]) (fun x=>s.length-x.1) (0,[],[],s.length)
  ⟨(show SA w.heap.size b8 s 0 [] [] none 0 none 0 w8 from ⟨E.g0,l8,Je _ _ _ _,Je _ _ _ _,(by intro h;cases h),(by intro h;cases h),(by intro k h;cases h)⟩).scn (Aha _) (Aha _) (Aha _) O,Nat.sub_le _ _,rfl,g⟩ (Za rfl (Za rfl (Zr _))) ?_
 rintro ⟨p,ts,cs,f⟩ u ⟨hs,hf,he,g⟩;simp only at hs hf he;obtain ⟨ta,tc,ca,cc,hA,k1,k2,k3,k4⟩:=hs.sa;refine Zj (Zj (Zl (Zv J (Vy J (Xg Ys J (Xl Yf J (hA.B.at_ J) (Zv J (Zz J (fun _=>Qjb Vl (Zd J)) (Uua J J (Ze (kq (Wz J (fun h2=>?_) (fun h2=>?_)))))))))))));replace h2:p<s.length:=by simp only [Wpg] at h2;omega
 obtain ⟨f',rfl⟩:∃ f',f=f'+1:=⟨f-1,O⟩;rw [goF,Wng h2,Wug] at he;refine AU ?_;refine CL (Vkf _ _ hb3 s p ts cs _ (hL.grow g) hs h2) ?_;rintro v21 w21 ⟨rfl,hs',hb'⟩;refine ⟨nw1,?_⟩;have g:G w w21:=Below.trans g hb';refine IF (fun h3=>?_) fun h3=>?_;replace h3:decide ((nextF s p ts cs).2.2.2=0)=false:=by simpa using h3
 rw [h3,Wtg] at he;refine RTN ?_;rw [hN,← he];obtain ⟨ta,tc,ca,cc,hA,_⟩:=hs'.sa;exact ⟨b8,ta,tc,ca,cc,rfl,hA,g⟩;replace h3:(nextF s p ts cs).2.2.2=0:=by simpa using h3
 have hlt:=Jle h2 h3;rw [Wng h3,Wug] at he;refine KC [0,4] ?_;refine Yw (fun a ha=>?_);exact ⟨(_,_,_,f'),ha,⟨hs',by show s.length-(nextF s p ts cs).1≤f';omega,he,g⟩,by show s.length-(nextF s p ts cs).1<s.length-p;omega⟩;have hp:p=s.length:=by simp only [Wqg] at h2;omega
 have he:(p,ts,cs,(0:Int))=goF s s.length 0 [] []:=by
  rw [← he]
  cases f with
  | zero=>rfl
  | succ f'=>rw [goF,Wmg (by omega:¬ p<s.length)];rfl
 refine RTN ?_;rw [hN,← he];exact ⟨b8,ta,tc,ca,cc,rfl,hA,g⟩
def scanF(s:List UInt8):List Tok×Nat×Int:=bif !decide ((allF s).2.2.2=0) then ([],(allF s).1,(allF s).2.2.2) else ((allF s).2.1,0,0)
def Toks(base:Nat)(l:List Tok)(v:Ga)(w:Aa):Prop:=w.ownsRow base 94 3 v l.length (toksCells l)
theorem Yje(s:List UInt8)(w:Aa)(hL:Laid w)(hb3:10≤w.heap.size) :
 Ret PP 132 #[Str s] w fun v w'=>∃ l,v = .tuple #[l,.int .i64 (scanF s).2.1,.int .i64 (scanF s).2.2]∧Toks w.heap.size (scanF s).1 l w'∧G w w':=by
 have g:=G.refl w;refine WK 23 [0] Tryz.func132 ?_;refine AU ?_;refine CL (Ztg s _ (hL.grow g) hb3) ?_;rintro v9 w9 ⟨b,ta,tc,ca,cc,rfl,hA,g9⟩;refine ⟨fun _=>g9,?_⟩;have g:=g.trans g9;refine IF (fun h1=>?_) fun h1=>?_;(try simp only [bsimp] at h1);refine Zj (Xs [3,3,3,0,3,3,3,3] [true,true,true,true,true,true,true,true] [0,1,3,7,0,0,47,127] mix KR ?_);have g:=gdr g;have gh:=G.drew w9;refine Zv J (Vy J (Xg Ys J (Xl Yf J (by first|exact (hA.grow gh).B.at_ J) (Zv J (Yr J (Yr J (Yr J (Ze (kq (Xo (Zfd (ts:=[2,3,4]) (vs:=[_,_,_]) J J J ?_)))))))))));refine ⟨.slice none 0 0,?_,?_,g⟩;rw [scanF,show (!decide ((allF s).2.2.2=0))=true from h1];rfl;rw [scanF,show (!decide ((allF s).2.2.2=0))=true from h1];exact Je _ _ _ _;have gh:=G.refl w9;refine Yw (kq (Zj (Zl (Zv J (Vy J (Xg Qb J (Xl Un J (by first|exact (hA.grow gh).B.at_ J) (Yr J (Yr J (Yr J (Ze (kq (Xo (Zfd (ts:=[2,3,4]) (vs:=[_,_,_]) J J J ?_))))))))))))));refine ⟨.slice ta (allF s).2.1.length tc,?_,?_,g⟩;rw [scanF,show (!decide ((allF s).2.2.2=0))=false from h1];rfl;rw [scanF,show (!decide ((allF s).2.2.2=0))=false from h1];exact hA.ht
structure Ty where
  kind:Int
  name:List UInt8
inductive Nd where
  | mk (kind:Int) (text:List UInt8) (num pos:Int) (kids:List Nd) (ty:Ty) (ref up:Int)
namespace Nd
def kind:Nd→Int | .mk k _ _ _ _ _ _ _=>k
def text:Nd→List UInt8 | .mk _ x _ _ _ _ _ _=>x
def num:Nd→Int | .mk _ _ n _ _ _ _ _=>n
def pos:Nd→Int | .mk _ _ _ a _ _ _ _=>a
def kids:Nd→List Nd | .mk _ _ _ _ ks _ _ _=>ks
def ty:Nd→Ty | .mk _ _ _ _ _ y _ _=>y
def ref:Nd→Int | .mk _ _ _ _ _ _ r _=>r
def up:Nd→Int | .mk _ _ _ _ _ _ _ u=>u
end Nd
def ty0:Ty:=⟨0,[]⟩
def nd0:Nd:=.mk 0 [] 0 0 [] ty0 0 0
def tyCells(y:Ty):List Ga:=[.int .i64 y.kind,Str y.name]
def ndCells(t:Nd)(v:Ga):List Ga:=[.int .i64 t.kind,Str t.text,.int .i64 t.num,.int .i64 t.pos,v,.int .i64 t.ty.kind,Str t.ty.name,.int .i64 t.ref,.int .i64 t.up]
@[reducible] def tyV(y:Ty):Ga:=.agg (tyCells y).toArray
@[reducible] def ndV(t:Nd)(v:Ga):Ga:=.agg (ndCells t v).toArray
theorem Jj(t:Nd)(v:Ga):(ndCells t v).length=9:=rfl
mutual
theorem Nd.ind_n{C:Nd→Prop}(h:∀ t,(∀ k∈t.kids,C k)→C t):∀ t,C t
 | .mk k x n a ks y r u=>h _ (Nd.ind_l h ks)
theorem Nd.ind_l{C:Nd→Prop}(h:∀ t,(∀ k∈t.kids,C k)→C t):∀ (l:List Nd),∀ k∈l,C k
 | []=>fun _ hk=>by cases hk
 | t::ts=>Aya.2 ⟨Nd.ind_n h t,Nd.ind_l h ts⟩
end
theorem Nd.ind{C:Nd→Prop}(h:∀ t,(∀ k∈t.kids,C k)→C t)(t:Nd):C t:=Nd.ind_n h t
section
variable {α:Type}
mutual
def para(f:Nd→List α→α):Nd→α
 | .mk k x n a ks y r u=>f (.mk k x n a ks y r u) (paraL f ks)
def paraL(f:Nd→List α→α):List Nd→List α
 | []=>[]
 | t::ts=>para f t::paraL f ts
end
theorem Jme(f:Nd→List α→α)(l:List Nd):paraL f l=l.map (para f):=by
 induction l with
 | nil=>rfl
 | cons t ts ih=>rw [paraL,ih];rfl
theorem Zla(f:Nd→List α→α)(t:Nd):para f t=f t (t.kids.map (para f)):=by
 cases t with
 | mk k x n a ks y r u=>rw [para,Jme];rfl
end
mutual
def KRow(w:Aa)(D:Nat→Prop):List Nd→List Ga→Prop
 | [],xs=>xs=[]
 | t::ts,xs=>∃ v r,xs=ndCells t v++r∧KNd w D t v∧KRow w D ts r
def KNd(w:Aa)(D:Nat→Prop):Nd→Ga→Prop
 | .mk _ _ _ _ ks _ _ _,v=>∃ p c,v = .slice p ks.length c∧ks.length≤c∧(0<ks.length→∃ b o,p=some ⟨b,o,none⟩∧D b∧∃ xs,RowAt w b o xs∧KRow w D ks xs)
end
def Kd(w:Aa)(D:Nat→Prop)(ks:List Nd)(v:Ga):Prop :=
 ∃ p c,v = .slice p ks.length c∧ks.length≤c∧(0<ks.length→∃ b o,p=some ⟨b,o,none⟩∧D b∧∃ xs,RowAt w b o xs∧KRow w D ks xs)
theorem Zvc(w:Aa)(D:Nat→Prop)(t:Nd)(v:Ga):KNd w D t v=Kd w D t.kids v:=by
 cases t;rw [KNd];rfl
theorem Xsb{w:Aa}{D:Nat→Prop}:KRow w D [] []:=rfl
theorem Uo{w:Aa}{D:Nat→Prop}{t:Nd}{ts:List Nd}{v:Ga}{r:List Ga}(h:Kd w D t.kids v)(k:KRow w D ts r):KRow w D (t::ts) (ndCells t v++r) :=
 ⟨v,r,rfl,(Zvc ..).symm▸h,k⟩
theorem Woa{w:Aa}{D:Nat→Prop}:∀ {ks:List Nd} {xs:List Ga},KRow w D ks xs→xs.length=ks.length*9
 | [],xs,h=>by rw [show xs=[] from h];rfl
 | t::ts,xs,h=>by
  obtain ⟨v,r,rfl,_,h⟩:=h;rw [Ala,Jj,Woa h,Ama];omega
theorem Wpa{w:Aa}{D:Nat→Prop}:∀ {ks ls:List Nd} {xs ys:List Ga},KRow w D ks xs→KRow w D ls ys→KRow w D (ks++ls) (xs++ys)
 | [],ls,xs,ys,h,k=>by rw [show xs=[] from h];exact k
 | t::ts,ls,xs,ys,h,k=>by
  obtain ⟨v,r,rfl,h1,h⟩:=h;exact ⟨v,r++ys,by rw [List.append_assoc],h1,Wpa h k⟩
theorem Vd{w:Aa}{D:Nat→Prop}{t:Nd}{v:Ga}(h:Kd w D t.kids v):KRow w D [t] (ndCells t v):=by
 have:=Uo h (Xsb (w:=w) (D:=D));rwa [Bca] at this
theorem Wyc{w:Aa}{D:Nat→Prop}:∀ {ks:List Nd} {xs:List Ga} (_:KRow w D ks xs) {i:Nat} (hi:i<ks.length),∃ v,(xs.drop (i*9)).take 9=ndCells ks[i] v∧Kd w D ks[i].kids v
 | [],xs,h,i,hi=>by cases hi
 | t::ts,xs,h,i,hi=>by
  obtain ⟨v,r,rfl,h1,h⟩:=h
  cases i with
  | zero=>exact ⟨v,by simp [ndCells],Zvc w D t v▸h1⟩
  | succ i =>
   have hi':i<ts.length:=by simpa using hi
   obtain ⟨v',e,k⟩:=Wyc h hi';refine ⟨v',?_,k⟩
   have e9:(ndCells t v++r).drop ((i+1)*9)=r.drop (i*9):=by
    rw [show (i+1)*9=9+i*9 by omega,← List.drop_drop];rfl
   rw [e9];exact e
mutual
theorem Qc{w w':Aa}{D D':Nat→Prop}(hD:∀ b,D b→b<w.heap.size→D' b)(hf:∀ b,D b→b<w.heap.size→w'.heap[b]? = w.heap[b]?):∀ (ks:List Nd) (xs:List Ga),KRow w D ks xs→KRow w' D' ks xs
 | [],xs,h=>h
 | t::ts,xs,h=>by
  obtain ⟨v,r,rfl,h1,h⟩:=h;exact ⟨v,r,rfl,Qrc hD hf t v h1,Qc hD hf ts r h⟩
theorem Qrc{w w':Aa}{D D':Nat→Prop}(hD:∀ b,D b→b<w.heap.size→D' b)(hf:∀ b,D b→b<w.heap.size→w'.heap[b]? = w.heap[b]?):∀ (t:Nd) (v:Ga),KNd w D t v→KNd w' D' t v
 | .mk k x n a ks y r u,v,h=>by
  obtain ⟨p,c,rfl,hc,h⟩:=h;refine ⟨p,c,rfl,hc,fun h0=>?_⟩;obtain ⟨b,o,rfl,hb,xs,hR,hX⟩:=h h0;have hl:xs.length=ks.length*9:=Woa hX;have h0':∃ u,xs[0]? = some u:=⟨xs[0]'O,by simp⟩;obtain ⟨u0,hu0⟩:=h0';have hlt:b<w.heap.size:=World.block_lt_of_cell? w _ (hR 0 u0 hu0);have hb':=hf b hb hlt;refine ⟨b,o,rfl,hD b hb hlt,xs,fun j u hj=>?_,Qc hD hf ks xs hX⟩;have:=hR j u hj;unfold World.cell? at this ⊢;simp only [hb'];exact this
end
theorem Wp{w w':Aa}{D D':Nat→Prop}{ks:List Nd}{v:Ga}(h:Kd w D ks v)(hD:∀ b,D b→b<w.heap.size→D' b)(hf:∀ b,D b→b<w.heap.size→w'.heap[b]? = w.heap[b]?):Kd w' D' ks v:=by
 have:=Qrc hD hf (.mk 0 [] 0 0 ks ty0 0 0) v ((Zvc w D _ v).symm▸h);rw [Zvc] at this;exact this
theorem Kd.mono{w:Aa}{D D':Nat→Prop}{ks:List Nd}{v:Ga}(h:Kd w D ks v)(hD:∀ b,D b→b<w.heap.size→D' b):Kd w D' ks v:=Wp h hD fun _ _ _=>rfl
theorem KRow.mono{w:Aa}{D D':Nat→Prop}{ks:List Nd}{xs:List Ga}(h:KRow w D ks xs)(hD:∀ b,D b→b<w.heap.size→D' b):KRow w D' ks xs:=Qc hD (fun _ _ _=>rfl) _ _ h
theorem Kd.grow{w w':Aa}{D:Nat→Prop}{ks:List Nd}{v:Ga}(h:Kd w D ks v)(g:G w w'):Kd w' D ks v:=Wp h (fun _ h _=>h) fun _ _ hb=>g.block hb
theorem KRow.grow{w w':Aa}{D:Nat→Prop}{ks:List Nd}{xs:List Ga}(h:KRow w D ks xs)(g:G w w'):KRow w' D ks xs:=Qc (fun _ h _=>h) (fun _ _ hb=>g.block hb) _ _ h
theorem Kd.keep{w w':Aa}{D:Nat→Prop}{ks:List Nd}{v:Ga}{row:Option Nat}(h:Kd w D ks v)(hg:w.grownBy w' row)(hne:∀ b,D b→b<w.heap.size→some b≠row):Kd w' D ks v:=Wp h (fun _ h _=>h) fun b hb hlt=>hg.block b hlt (hne b hb hlt)
theorem KRow.keep{w w':Aa}{D:Nat→Prop}{ks:List Nd}{xs:List Ga}{row:Option Nat}(h:KRow w D ks xs)(hg:w.grownBy w' row)(hne:∀ b,D b→b<w.heap.size→some b≠row):KRow w' D ks xs:=Qc (fun _ h _=>h) (fun b hb hlt=>hg.block b hlt (hne b hb hlt)) _ _ h
theorem Kd.lt{w:Aa}{D:Nat→Prop}{ks:List Nd}{v:Ga}(h:Kd w D ks v):Kd w (fun b=>D b∧b<w.heap.size) ks v:=Wp h (fun _ h hl=>⟨h,hl⟩) fun _ _ _=>rfl
theorem KRow.lt{w:Aa}{D:Nat→Prop}{ks:List Nd}{xs:List Ga}(h:KRow w D ks xs):KRow w (fun b=>D b∧b<w.heap.size) ks xs:=Qc (fun _ h hl=>⟨h,hl⟩) (fun _ _ _=>rfl) _ _ h
theorem Kd.old{w w':Aa}{D:Nat→Prop}{ks:List Nd}{v:Ga}(h:Kd w D ks v)(g:G w w'):Kd w' (fun b=>D b∧b<w.heap.size) ks v:=h.lt.grow g
theorem Qab(w:Aa)(D:Nat→Prop):Kd w D [] (.slice none 0 0):=⟨none,0,rfl,Ada _,fun h=>absurd h (Nat.lt_irrefl 0)⟩
theorem Zug{w:Aa}{base:Nat}{e:Ba}{v:Ga}{m:Nat}{xs:List Ga}{D:Nat→Prop}{ks:List Nd}(h:w.ownsRow base e 9 v m xs)(hm:m=ks.length)(k:KRow w D ks xs)(hD:∀ b,v.ownBlock=some b→D b):Kd w D ks v:=by
 subst hm;obtain ⟨a,c,rfl,hc⟩:=Zpa h;refine ⟨a,c,rfl,hc,fun h0=>?_⟩;obtain ⟨b,c',hv,_,hR,_⟩:=Qva h h0;injection hv with hv _ _;subst hv;exact ⟨b,0,rfl,hD b rfl,xs,hR,k⟩
theorem Zga{w:Aa}{D:Nat→Prop}{ks:List Nd}{b o c:Nat}{xs:List Ga}(hb:D b)(hR:RowAt w b o xs)(hX:KRow w D ks xs)(hc:ks.length≤c):Kd w D ks (.slice (some ⟨b,o,none⟩) ks.length c):=⟨_,c,rfl,hc,fun _=>⟨b,o,rfl,hb,xs,hR,hX⟩⟩
theorem Zab{w:Aa}{D:Nat→Prop}{ks:List Nd}{b o:Nat}{xs:List Ga}(hR:RowAt w b o xs)(hX:KRow w D ks xs){i:Nat}(hi:i<ks.length):∃ p c,RowAt w b (o+i*9) (ndCells ks[i] (.slice p ks[i].kids.length c))∧Kd w D ks[i].kids (.slice p ks[i].kids.length c):=by
 obtain ⟨v,e,k⟩:=Wyc hX hi;have:=hR.part (i*9) 9;rw [e] at this;obtain ⟨p,c,rfl,k1⟩:=k;exact ⟨p,c,this,p,c,rfl,k1⟩
/-! counting -/
def count(t:Nd):Nat:=para (fun _ l=>1+l.sum) t
theorem Qi(t:Nd):count t=1+(t.kids.map count).sum:=Zla _ t
theorem Xbc(l:List Nat)(i:Nat):(l.take i).sum≤l.sum:=by
 conv=>rhs;rw [← List.take_append_drop i l,Bda]
 omega
theorem Jk{t:Nd}{i:Nat}(h:i<t.kids.length):((t.kids.take i).map count).sum+count t.kids[i]+1≤count t:=by
 rw [Qi t];have:=Xbc (t.kids.map count) (i+1);rw [← List.map_take,Bea,Aca h] at this;simp only [Option.toList_some,List.map_append,List.map_cons,List.map_nil,Bda,List.sum_cons,List.sum_nil] at this;omega
theorem Yza(t:Nd):1≤count t:=by rw [Qi];omega
theorem Ugb:∀ (l:List Nd),l.length≤(l.map count).sum
 | []=>Ada _
 | t::ts=>by have:=Ugb ts;have:=Yza t;simp;omega
theorem Wn(t:Nd):t.kids.length+1≤count t:=by
 have:=Ugb t.kids;rw [Qi];omega
theorem Xaa{t k:Nd}(h:k∈t.kids):count k+1≤count t:=by
 obtain ⟨i,hi,rfl⟩:=Asa h;have:=Jk hi;omega
theorem Uhb{α β:Type}(f:α→β)(l:List α)(i:Nat)(h:i<l.length):(l.take (i+1)).map f=(l.take i).map f++[f l[i]]:=by
 rw [Bea,Aca h,List.map_append];rfl
theorem Yke(c:Int)(w:Aa):Ret PP 94 #[.int .u8 c] w fun v w'=>v = .bool (letterB c)∧G w w':=by
 have g:=G.refl w;refine WK 21 [0] Tryz.func94 ?_;refine RTN ?_;exact ⟨rfl,g⟩
theorem Vlf(c:Int)(w:Aa):Ret PP 96 #[.int .u8 c] w fun v w'=>v = .bool (digitB c)∧G w w':=by
 have g:=G.refl w;refine WK 9 [0] Tryz.func96 ?_;refine RTN ?_;exact ⟨rfl,g⟩
def alB(c:UInt8):Bool:=letterB c.toNat || digitB c.toNat
def nameB(s:List UInt8):Bool:=!(((decide (s=[]) || decide ((32:Int)<s.length)) || !letterB (cAt s 0)) || inB kws s)&&(s.drop 1).all alB
theorem Jne{s:List UInt8}{i:Nat}(h:i<s.length):cAt s i=(s[i].toNat:Int):=by simp [cAt,Aea,Aca h]
theorem Wqa(s:List UInt8)(w:Aa):Ret PP 77 #[Str s] w fun v w'=>v = .bool (nameB s)∧G w w':=by
   have g := G.refl w
   refine WK 39 [0] Tryz.func77 ?_
   refine AU ?_
   refine Zk J J J (fun _ => Qsa Vl (Zp J id) Xa (fun hc => by
 have h1:=hc.2;simp only [Ata,Wqg] at h1
 have:s.length≠0:=fun h=>h1.1 (Bpa.1 h)
 omega)) (Xu rfl rfl rfl (fun _=>(Zu Vwb Xy (Ya (Zp rfl id) (Yl)) rfl)) (fun hc=>Yke _ _) (fun w14 g14=>?_))
   have g:=g.trans g14
   refine AU ?_
   refine CG (fun hc=>Wod _ _) (fun w19 g19=>?_)
   have g:=g.trans g19
   refine IF (fun h1=>?_) fun h1=>?_
   · (try simp only [bsimp] at h1)
     refine RTN ?_
     refine ⟨Wog ?_,g⟩
     unfold nameB;rw [show (((decide (s=[]) || decide ((32:Int)<s.length)) || !letterB (cAt s 0)) || inB kws s)=true from h1];rfl
   have hn:nameB s=(s.drop 1).all alB:=by unfold nameB;rw [show (((decide (s=[]) || decide ((32:Int)<s.length)) || !letterB (cAt s 0)) || inB kws s)=false from h1];rfl
   have hl32:s.length≤32:=by
     simp only [Ata,Wqg] at h1;omega
   refine AU ?_
   refine Vv (fun (i:Nat) u1=>(1≤i∧∀ j,1≤j→(h:j<s.length)→j<i→alB s[j]=true)∧G w19 u1) [(0,True,_)] (fun (i:Nat)=>[(3,True,.int .i64 i)]) (fun (i:Nat)=>s.length-i) (1) ⟨⟨O,fun j h1 _ h2=>by omega⟩,G.refl _⟩ (Za J (Za J (Zr _))) ?_
   rintro i u1 ⟨hI1,gl1⟩
   have g:=g.trans gl1
   refine IF (fun h2=>?_) fun h2=>?_
   · replace h2:i<s.length:=by simp only [Wpg] at h2;omega
     refine Yw (kq (Zj (Yx (Zj (Zl (Zv J (Zv J (Zz J (fun _=>Qsa Vl (Zd J) (Zd J) (fun _=>O)) (Wy J (Zu Vwb Xy (aqc J aq0) J) (Yke _ _) (fun w30 g30=>?_))))))))))
     have g:=g.trans g30
     have gl1:=gl1.trans (g30)
     refine Vbe J (Zv J (Zk J J J (fun _=>Zw (Zd J)) (Zk J J J (fun _=>Zw (Zd J)) (Zk J J J (fun _=>Qsa Vl (Zp J id) (Zp J id) (fun hc=>O)) (Xu J J J (fun _=>(Zu Zod Xy (Ya (Zp J id) (Yl)) J)) (fun hc=>Vlf _ _) (fun w36 g36=>?_))))))
     have g:=g.trans g36
     have gl1:=gl1.trans (g36)
     refine IF (fun h3=>?_) fun h3=>?_
     · have h3':alB s[i]=false:=by
         rw [alB,← Jne h2];simpa [cAt] using h3
       refine RTN ?_
       refine ⟨Wog ?_,g⟩
       rw [hn,eq_comm,Bfa]
       exact ⟨s[i],Bqa.2 ⟨i-1,O,by congr 1;omega⟩,by rw [h3'];simp⟩
     have h3':alB s[i]=true:=by
       rw [alB,← Jne h2]
       cases ha:letterB (cAt s i)
       · cases hb:digitB (cAt s i)
         · exfalso
           have h3:(!letterB (cAt s i) && !digitB (cAt s i))=false:=h3
           rw [ha,hb] at h3;cases h3
         · rfl
       · rfl
     refine AU ?_
     refine SK [3,0] ?_
     refine Ze (fun a ha=>?_)
     refine ⟨i+1,ha,⟨⟨O,fun j h4 h5 h6=>?_⟩,gl1⟩,O⟩
     by_cases e:j=i
     · subst e;exact h3'
     · exact hI1.2 j h4 h5 O
   replace h2:s.length≤i:=by simp only [Wqg] at h2;omega
   refine RTN ?_
   refine ⟨Wog ?_,g⟩
   rw [hn,eq_comm,Ana]
   intro x hx
   obtain ⟨j,hj,rfl⟩:=Bqa.1 hx
   exact hI1.2 _ O O O
/-! the same by the scanner -/
theorem Qud{c:Int}(h:letterB c=true):decide (c=10)=false∧((decide (c=32) || decide (c=9)) || decide (c=13))=false∧decide (c=47)=false:=by
 simp only [letterB,Bga,Aka,Wpg] at h;simp only [Ata,Wqg];omega
theorem Qsc{q:Int→Bool}:∀ {l:List UInt8},(∀ c∈l,q c.toNat=true)→runN q l=l.length
 | [],_=>rfl
 | c::l,h=>by
  rw [runN,if_pos (h c (Awa ..)),Qsc fun x hx=>h x (Bka _ hx)];rfl
theorem Joe{s:List UInt8}(h:nameB s=true):s.length≠0∧s.length≤32∧letterB (cAt s 0)=true∧inB kws s=false∧runN isAlnum s=s.length:=by
 unfold nameB at h;simp only [Aka,Bool.not_eq_true',Ata,Wqg,Bool.not_eq_false'] at h;obtain ⟨⟨⟨⟨h1,h2⟩,h3⟩,h4⟩,h5⟩:=h;refine ⟨fun e=>h1 (Bpa.1 e),O,h3,h4,Qsc fun c hc=>?_⟩
 cases s with
 | nil=>cases hc
 | cons a l =>
  rcases List.mem_cons.1 hc with rfl|hc;have:letterB (c.toNat:Int)=true:=h3;rw [isAlnum,this];rfl;exact Ana.1 h5 c hc
theorem Vpe{l:List UInt8}(h:decide (cAt l 0=47)=false):preB [47,47] l=false:=by
 cases l with
 | nil=>rfl
 | cons a l =>
  have:¬ (a.toNat:Int)=47:=Wsg h;unfold preB;rw [Bool.and_eq_false_iff];right;rw [Wqg];intro e;rw [Ama,Bla] at e;injection e with e1 _;subst e1;exact this rfl
theorem Vqe{s:List UInt8}(h:nameB s=true):scanF s=([⟨1,s,0⟩],0,0):=by
 obtain ⟨h0,h1,h2,h3,h4⟩:=Joe h;obtain ⟨a1,a2,a3⟩:=Qud h2
 have hN:nextF s 0 [] []=(s.length,[⟨1,s,0⟩],[],0):=by
  unfold nextF;rw [a1,a2,show s.drop 0=s from rfl,Vpe a3,h2,h4,Wmg (by omega:¬ (32:Int)<(s.length:Nat)),Bra (Ada _),wordK,h3];simp
 have hG:goF s s.length 0 [] []=(s.length,[⟨1,s,0⟩],[],0):=by
  obtain ⟨m,hm⟩:∃ m,s.length=m+1:=⟨s.length-1,O⟩;rw [hm,goF,Wng (by omega:0<s.length),hN];simp only [Wug,decide_true]
  cases m with
  | zero=>rw [goF,hm]
  | succ m=>rw [goF,Wmg O,Wtg,hm]
 rw [scanF,allF,Wmg (by omega:¬ (20000:Int)<s.length),Wtg,hG];rfl
def NameTok(t:Tok):Prop:=t.kind=1→nameB t.text=true
theorem Qvd{s:List UInt8}{p:Nat}{ts:List Tok}(cs:List Tok)(hp:p<s.length)(h:∀ t∈ts,NameTok t):∀ t∈(nextF s p ts cs).2.1,NameTok t:=by
 have hn:∀ (l:List Tok) (t:Tok),(∀ t∈l,NameTok t)→NameTok t→∀ u∈l++[t],NameTok u:=by
  intro l t hl ht u hu;rcases List.mem_append.1 hu with hu|hu;exact hl u hu;rw [List.mem_singleton.1 hu];exact ht
 unfold nextF;cases h1:decide (cAt s p=10);cases h2:((decide (cAt s p=32) || decide (cAt s p=9)) || decide (cAt s p=13));cases h3:preB [47,47] (s.drop p);cases h4:letterB (cAt s p);cases h7:digitB (cAt s p);cases h8:Aaa (Ufb (s.drop p)) 0;exact hn _ _ h (fun e=>by simp at e);exact h;cases h8:badD s p (runN digitB (s.drop p));cases h9:decide (valN 0 ((s.drop p).take (runN digitB (s.drop p)))<9223372036854775808);exact h;exact hn _ _ h (fun e=>by simp at e);exact h;cases h5:decide ((32:Int)<runN isAlnum (s.drop p));refine hn _ _ h (fun e=>?_);simp only at e ⊢;have hq:isAlnum (cAt s p)=true:=by rw [isAlnum,h4];rfl
 have hpos:=Qia hp hq;have hfit:=Jhb isAlnum hp;have hall:=Wxc isAlnum (s.drop p);generalize hX:(s.drop p).take (runN isAlnum (s.drop p))=x at e hall ⊢;have hl:x.length=runN isAlnum (s.drop p):=by rw [← hX,Bba,Axa];omega
 have hk:inB kws x=false:=by
  cases hk:inB kws x;rfl;rw [wordK,hk] at e;cases e
 have hc:cAt x 0=cAt s p:=by
  rw [← hX];unfold cAt;simp [Aea,List.getElem?_take,show 0<runN isAlnum (s.drop p) from hpos]
 have h5':=Wsg h5;unfold nameB;rw [Wmg (by omega:¬ (32:Int)<(x.length:Nat)),hc,h4,hk,Wmg (by intro e0;rw [e0] at hl;simp at hl;omega)];simp only [Afa,Aja,Aga,Ava];rw [Ana];intro c hc;exact hall c (List.mem_of_mem_drop hc);exact h;exact h;exact h;show ∀ t∈nlTs p ts,NameTok t;intro t ht
 have:nlTs p ts=ts∨∃ q,nlTs p ts=ts++[⟨4,[59],q⟩]:=by
  unfold nlTs
  cases ts.getLast? with
  | none=>exact .inl rfl
  | some u=>simp only [];split <;> first|exact .inl rfl|exact .inr ⟨_,rfl⟩
 rcases this with e|⟨q,e⟩;rw [e] at ht;exact h t ht;rw [e] at ht;exact hn _ _ h (fun e=>by simp at e) t ht
theorem Wrd(s:List UInt8):∀ (f p:Nat) (ts cs:List Tok),(∀ t∈ts,NameTok t)→∀ t∈(goF s f p ts cs).2.1,NameTok t
 | 0,_,_,_,h=>h
 | f+1,p,ts,cs,h=>by
  rw [goF];cases hp:decide (p<s.length);exact h;have hn:=Qvd (ts:=ts) cs (Wrg hp) h;cases decide ((nextF s p ts cs).2.2.2=0);exact hn;exact Wrd s f _ _ _ hn
theorem Qwd(s:List UInt8):∀ t∈(scanF s).1,NameTok t:=by
 rw [scanF,allF];cases decide ((20000:Int)<s.length);simp only [Wtg];have:=Wrd s s.length 0 [] [] (fun t ht=>by cases ht);cases (!decide ((goF s s.length 0 [] []).2.2.2=0));exact this;exact fun t ht=>by cases ht
 exact fun t ht=>by cases ht
def tok1(l:List Tok):Tok:=l.getD 0 ⟨0,[],0⟩
def Jpe(s:List UInt8):Bool:=((decide ((scanF s).2.2=0)&&decide (((scanF s).1.length:Int)=1))&&decide ((tok1 (scanF s).1).kind=1))&&decide ((tok1 (scanF s).1).text=s)
theorem Wsd(s:List UInt8):Jpe s=nameB s:=by
 cases h:nameB s;rw [Jpe,Bool.eq_false_iff];intro hp;simp only [Aka,Wpg] at hp;obtain ⟨⟨⟨_,h2⟩,h3⟩,h4⟩:=hp
 have hm:tok1 (scanF s).1∈(scanF s).1:=by
  cases hl:(scanF s).1 with
  | nil=>rw [hl] at h2;simp at h2
  | cons a l=>exact Awa ..
 have:=Qwd s _ hm h3;rw [h4,h] at this;cases this;rw [Jpe,Vqe h];simp [tok1]
def pb(p:Option Addr):Nat:=match p with|some a=>a.block|none=>0
def po(p:Option Addr):Nat:=match p with|some a=>a.off|none=>0
def anyK:List Int→Int→Bool
 | [],_=>false
 | [a],k=>decide (k=a)
 | a::b::l,k=>decide (k=a) || anyK (b::l) k
def anyS:List (List UInt8)→List UInt8→Bool
 | [],_=>false
 | [a],k=>decide (k=a)
 | a::b::l,k=>decide (k=a) || anyS (b::l) k
theorem Zbb:∀ (l:List Int) (k:Int),anyK l k=true↔k∈l
 | [],k=>by simp [anyK]
 | [a],k=>by simp [anyK]
 | a::b::l,k=>by rw [anyK,Bga,Zbb (b::l) k,Wpg,List.mem_cons (a:=k) (b:=a)]
theorem Jib:∀ (l:List (List UInt8)) (k:List UInt8),anyS l k=true↔k∈l
 | [],k=>by simp [anyS]
 | [a],k=>by simp [anyS]
 | a::b::l,k=>by rw [anyS,Bga,Jib (b::l) k,Wpg,List.mem_cons (a:=k) (b:=a)]
theorem Jqe{w:Aa}{b o:Nat}{l:List Tok}(h:RowAt w b o (toksCells l))(hl:0<l.length):RowAt w b o (tokCells (tok1 l)):=by
 cases l with
 | nil=>cases hl
 | cons t l =>
  have:=h.part 0 3;exact this
theorem Yv{P:Fa}{n:Nat}{σ:List Ent}{c:Prop}{wb:Aa}{ty:Ba}{t e z by_:Nat}{x y:Ea}{p:Option Addr}{m q:Nat}{k:IntKind}{i:Int}(ht:tyElem P t=some (e,z,by_))(h:Ev n σ c x (.slice p m q))(h':Ev n σ c y (.int k i))(hi:c→0≤i∧i<m)(hp:c→p=some ⟨pb p,po p,none⟩) :
  Rd P n σ c wb (.indexAddr t x y) ty (.pointer (some ⟨pb p,po p+i.toNat*z,none⟩)):=.mk fun d pos after gd a ha hc w1 hg =>
 Xta (P:=P) (wb:=wb) ht (Ev.to h fun hc=>congrArg (fun p=>Ia p m q) (hp hc)) h' hi d pos after gd a ha hc w1 hg
theorem Zma{P:Fa}{Z:List Da→Act→Aa→Prop}{ops:List Oper}{cl:List Nat}{lv:List Bool}{W0:Aa}{n:Nat}{K:Act→Aa→Prop}{k:Nat}{rest:List Oper}{σ:List Ent}{w:Aa}{d:Nat}{ty:Ba}{pos:String}{after:Array Edge}{x y:Ea}{t e z by_:Nat}{p:Option Addr}{m q:Nat}{g:IntKind}{i:Int}(ht:tyElem P t=some (e,z,by_))(hx:opv σ x=some (True,.slice p m q))(hy:opv σ y=some (True,.int g i))(hi:0≤i∧i<m)(hp:p=some ⟨pb p,po p,none⟩)
  (h:SR P Z ops cl lv W0 n K (k+1) rest ((d,True,.pointer (some ⟨pb p,po p+i.toNat*z,none⟩)) :: σ) w) (hb:(Aaa (clOf cl k) 3&&Aia d n)=true:=by exact rfl):SR P Z ops cl lv W0 n K k (⟨some d,.indexAddr t x y,ty,pos,after,none⟩::rest) σ w:=Zz hb (fun _=>Yv ht (Jp hx) (Jp hy) (fun _=>hi) fun _=>hp) h
theorem Wzc{base:Nat}{l:List Tok}{v:Ga}{w:Aa}(h:Toks base l v w):∃ a c,v = .slice a l.length c∧(0<l.length→a=some ⟨pb a,po a,none⟩∧RowAt w (pb a) (po a) (tokCells (tok1 l))):=by
 obtain ⟨a,c,rfl,_⟩:=Zpa h;refine ⟨a,c,rfl,fun h0=>?_⟩;obtain ⟨b,c',hv,_,hR,_⟩:=Qva h h0;injection hv with hv _ _;subst hv;exact ⟨rfl,Jqe hR h0⟩
theorem Wtd(s:List UInt8)(w:Aa)(hL:Laid w)(hb3:10≤w.heap.size):Ret PP 109 #[Str s] w fun v w'=>v = .bool (nameB s)∧G w w':=by
 have g:=G.refl w;refine WK 34 [0] Tryz.func109 ?_;refine AU ?_;refine CL (Yje s _ (hL.grow g) (by have:=g.size;omega)) ?_;rintro v8 w8 ⟨l,rfl,hT,g8⟩;obtain ⟨a,c,rfl,hr⟩:=Wzc hT;refine ⟨fun _=>g8,?_⟩;have g:=g.trans g8;refine AU ?_;refine Zk J J J (fun _=>Yv Vc (Zp J id) Xa (fun hc=>by have:=Wrg (Aba.1 hc.2).2;omega) (fun hc=>(hr (by have:=Wrg (Aba.1 hc.2).2;omega)).1)) ?_;refine AU ?_;refine Yg J J J (Zq Yf (Zp J id) (fun hc=>(hr (by have:=Wrg (Aba.1 hc.2).2;omega)).2 0 _ J)) ?_;refine AU ?_;refine Zk J J J (fun _=>Yv Vc (Zp J id) Xa (fun hc=>by have:=Wrg (Aba.1 (Aba.1 hc.2).1).2;omega) (fun hc=>(hr (by have:=Wrg (Aba.1 (Aba.1 hc.2).1).2;omega)).1)) ?_;refine AU ?_;refine Yg J J J (Zq Yy (Zp J id) (fun hc=>(hr (by have:=Wrg (Aba.1 (Aba.1 hc.2).1).2;omega)).2 1 _ J)) ?_;refine RTN ?_;refine ⟨Wog ?_,g⟩;rw [← Wsd];rfl
theorem Ty.ext'{a b:Ty}(h:a.kind=b.kind)(k:a.name=b.name):a=b:=by cases a;cases b;simp_all
def tyEqB(a b:Ty):Bool:=decide (a.kind=b.kind)&&(decide (a.name=b.name)&&true)
theorem Zwc(a b:Ty):tyEqB a b=true↔a=b:=by
 unfold tyEqB;simp only [Bool.and_true,Aka,Wpg];exact ⟨fun h=>Ty.ext' h.1 h.2,fun h=>by rw [h];exact ⟨rfl,rfl⟩⟩
def tInt:Ty:=⟨1,[]⟩
def tBool:Ty:=⟨2,[]⟩
def tNil:Ty:=⟨3,[]⟩
def tyValidB(y:Ty):Bool:=bif decide (y.kind=4) then nameB y.name else (decide (0≤y.kind)&&decide (y.kind≤12))&&decide (y.name=[])
def refB(y:Ty):Bool:=bif anyK [4,5,6,7] y.kind then tyValidB y else false
def Ux(y:Ty):Bool:=(tyEqB y tInt || tyEqB y tBool) || refB y
def Us(to fr:Ty):Bool:=Ux to&&(tyEqB fr to || (tyEqB fr tNil&&refB to))
def compB(a b:Ty):Bool:=bif tyEqB a tNil || tyEqB b tNil then refB a || refB b
 else bif anyK [1,2,4,6] a.kind then tyEqB a b&&tyValidB a else false
theorem Zxc(y:Ty)(w:Aa)(hL:Laid w)(hb3:10≤w.heap.size):Ret PP 135 #[tyV y] w fun v w'=>v = .bool (tyValidB y)∧G w w':=by
 have g:=G.refl w;refine WK 22 [0] Tryz.func135 ?_;refine BM fun _ _ _ _ g E=>?_;refine IF (fun h1=>?_) fun h1=>?_;(try simp only [bsimp] at h1);refine AU ?_;refine CP (Wtd _ _ (hL.grow g) (by have:=g.size;omega)) (fun w8 g8=>?_);have g:=g.trans g8;replace E:=E.grow g8;refine RTN ?_;refine ⟨Wog ?_,g⟩;unfold tyValidB;rw [h1];rfl;refine RTN ?_;refine ⟨Wog ?_,g⟩;unfold tyValidB;rw [h1];rfl
theorem Xuc(y:Ty)(w:Aa)(hL:Laid w)(hb3:10≤w.heap.size):Ret PP 110 #[tyV y] w fun v w'=>v = .bool (refB y)∧G w w':=by
 have g:=G.refl w;refine WK 12 [0] Tryz.func110 ?_;refine BM fun _ _ _ _ g E=>?_;refine AU ?_;refine' OR [1,2] (fun hb1=>?y1) (kq ?n1)
 case y1 =>
  refine AU ?_;refine' OR [1,2] (fun hb2=>?y2) knr
  case y2 =>
   refine AU ?_;refine' OR [1,2] (fun hb3=>?y3) knr
   case y3 =>
    refine AU ?_;refine SK [5,1,2] ?_;exact Ze knr
 case n1 =>
  refine IF (fun h4=>?_) fun h4=>?_;have hq:anyK [4,5,6,7] y.kind=true:=h4;refine AU ?_;refine CP (Zxc _ _ (hL.grow g) (by have:=g.size;omega)) (fun w11 g11=>?_);have g:=g.trans g11;replace E:=E.grow g11;refine RTN ?_;refine ⟨Wog ?_,g⟩;unfold refB;rw [hq];rfl;have hq:anyK [4,5,6,7] y.kind=false:=h4;refine RTN ?_;refine ⟨Wog ?_,g⟩;unfold refB;rw [hq];rfl
theorem Xza(y:Ty)(w:Aa)(hL:Laid w)(hb3:10≤w.heap.size):Ret PP 86 #[tyV y] w fun v w'=>v = .bool (Ux y)∧G w w':=by
 have g:=G.refl w;refine WK 15 [0] Tryz.func86 ?_;refine Zj (Zl (BM fun _ _ _ _ g E=>?_));refine Yr J (Ze (kq (Zj (Zl (Wm Zm J J E.g0.row (Vfb Xk Vm (pqc J pq0) J J (Zz J (fun _=>Qx Wo (Zd J) (Zd J) J) (Zv J (Yg J J J (Zo Zm (Zd J) J (fun _=>E.g0.row)) (Zk J J J (fun _=>Uv [_,_] Xk J Vm (Wi Xa (Vj)) J) (Zk J J J (fun _=>Qx Wo (Zp J id) (Zp J id) J) (Zz J (fun _=>Xd (Zd J) (Zp J id)) (Zv J (Yg J J J (Zo Zm (Zd J) J (fun _=>E.g0.row)) (Xu J J J (fun _=>(Zu Uwa Xy (Ya (Zp J id) (Yl)) J)) (fun hc=>Xuc _ _ (hL.grow g) (by have:=g.size;omega)) (fun w13 g13=>?_))))))))))))))));have g:=g.trans g13;replace E:=E.grow g13;refine RTN ?_;exact ⟨rfl,g⟩
theorem Qxd(a b:Ty)(w:Aa)(hL:Laid w)(hb3:10≤w.heap.size):Ret PP 136 #[tyV a,tyV b] w fun v w'=>v = .bool (Us a b)∧G w w':=by
 have g:=G.refl w;refine WK 21 [0,1] Tryz.func136 ?_;refine BM fun _ _ _ _ g E=>?_;refine BN fun _ _ _ _ g E=>?_;refine Yr J (Ze (kq (Zj (Zl (Wm Zm J J E.g1.row (Wy J (Zu Xhb Xy (aqc J aq0) J) (Xza _ _ (hL.grow g) (by have:=g.size;omega)) (fun w6 g6=>?_)))))));have g:=g.trans g6;replace E:=E.grow g6;refine Zv J (Yg J J J (Zo Zm (Zd J) J (fun _=>E.g0.row)) (Yg J J J (Zo Zm (Zd J) J (fun _=>E.g1.row)) (Zk J J J (fun _=>Qx Wo (Zp J id) (Zp J id) J) (Zk J J J (fun _=>Zw (Zp J id)) (Yg J J J (Zo Zm (Zd J) J (fun _=>E.g0.row)) (Zk J J J (fun _=>Uv [_,_] Xk J Vm (Wi Xa (Vj)) J) (Zk J J J (fun _=>Qx Wo (Zp J id) (Zp J id) J) (Zk J J J (fun _=>Zw (Zp J id)) (Yg J J J (Zo Zm (Zd J) J (fun _=>E.g1.row)) (Xu J J J (fun _=>(Zu Uwa Xy (Ya (Zp J id) (Yl)) J)) (fun hc=>Xuc _ _ (hL.grow g) (by have:=g.size;omega)) (fun w17 g17=>?_)))))))))));have g:=g.trans g17;replace E:=E.grow g17;refine RTN ?_;exact ⟨rfl,g⟩
theorem Jre(a b:Ty)(w:Aa)(hL:Laid w)(hb3:10≤w.heap.size):Ret PP 160 #[tyV a,tyV b] w fun v w'=>v = .bool (compB a b)∧G w w':=by
 have g:=G.refl w;refine WK 35 [0,1] Tryz.func160 ?_;refine BM fun _ _ _ _ g E=>?_;refine BN fun _ _ _ _ g E=>?_;refine AN fun _ _ _ _ g E=>?_;refine AS fun _ _ _ g E=>?_;refine IF (fun h1=>?_) fun h1=>?_;have hq:(tyEqB a tNil || tyEqB b tNil)=true:=h1;refine AU ?_;refine CP (Xuc _ _ (hL.grow g) (by have:=g.size;omega)) (fun w16 g16=>?_);have g:=g.trans g16;replace E:=E.grow g16;refine AU ?_;refine CG (fun hc=>Xuc _ _ (hL.grow g) (by have:=g.size;omega)) (fun w19 g19=>?_);have g:=g.trans g19;replace E:=E.grow g19;refine RTN ?_;refine ⟨Wog ?_,g⟩;unfold compB;rw [hq];rfl;have hq:(tyEqB a tNil || tyEqB b tNil)=false:=h1;refine AU ?_;refine' OR [2,3,4] (fun hb2=>?y2) (kq ?n2)
 case y2 =>
  refine AU ?_;refine' OR [2,3,4] (fun hb3=>?y3) knr
  case y3 =>
   refine AU ?_;refine' OR [2,3,4] (fun hb4=>?y4) knr
   case y4 =>
    refine AU ?_;refine SK [23,2,3,4] ?_;exact Ze knr
 case n2 =>
  refine IF (fun h5=>?_) fun h5=>?_;have hr:anyK [1,2,4,6] a.kind=true:=h5;refine AU ?_;refine CG (fun hc=>Zxc _ _ (hL.grow g) (by have:=g.size;omega)) (fun w33 g33=>?_);have g:=g.trans g33;replace E:=E.grow g33;refine RTN ?_;refine ⟨Wog ?_,g⟩;unfold compB;rw [hq,hr];rfl;have hr:anyK [1,2,4,6] a.kind=false:=h5;refine RTN ?_;refine ⟨Wog ?_,g⟩;unfold compB;rw [hq,hr];rfl
def tFunc:Ty:=⟨7,[]⟩
def typTexts:List (List UInt8):=[[],[105,110,116],[98,111,111,108],[110,105,108],[],[91,93,105,110,116],[99,104,97,110,32,105,110,116],[102,117,110,99,40,41],[109,117,116,101,120],[114,119,109,117,116,101,120],[103,114,111,117,112],[111,110,99,101],[97,116,111,109,105,99]]
def LaidT(w:Aa):Prop:=RowAt w 0 0 (typTexts.map Str)
theorem LaidT.grow{w w':Aa}(h:LaidT w)(g:G w w'):LaidT w':=RowAt.grow h g
theorem Jse{k:Int}(h0:0≤k)(h1:k≤12):(typTexts.map Str)[k.toNat]? = some (Str (typTexts.getD k.toNat [])):=by
 have hl:typTexts.length=13:=rfl;have h:k.toNat<typTexts.length:=by omega
 rw [List.getElem?_map,Aca h,Aea,Aca h];rfl
section
variable {α:Type} {f:α→List Ga} {z:Nat}
theorem Xtb(hf:∀ a,(f a).length=z):∀ (l:List α),(l.flatMap f).length=l.length*z
 | []=>by simp
 | a::l=>by rw [Aqa,Ala,hf,Xtb hf l,Ama,Nat.succ_mul,Bha]
theorem Yle(hf:∀ a,(f a).length=z):∀ (l:List α) (i:Nat) (h:i<l.length),((l.flatMap f).drop (i*z)).take z=f l[i]
 | [],_,h=>by cases h
 | a::l,0,_=>by
  rw [Aqa,Nat.zero_mul,List.drop_zero,List.take_append_of_le_length (by rw [hf];exact Ada _),Bra (by rw [hf];exact Ada _)];rfl
 | a::l,i+1,h=>by
  have e:(((a::l).flatMap f)).drop ((i+1)*z)=(l.flatMap f).drop (i*z):=by
   rw [Aqa,Nat.succ_mul,Bha,← List.drop_drop];congr 1;rw [← hf a,List.drop_left]
  rw [e];exact Yle hf l i (by simpa using h)
def RowF(f:α→List Ga)(w:Aa)(l:List α)(v:Ga):Prop :=
 ∃ p c,v = .slice p l.length c∧l.length≤c∧(0<l.length→∃ b o,p=some ⟨b,o,none⟩∧RowAt w b o (l.flatMap f))
theorem RowF.grow{w w':Aa}{l:List α}{v:Ga}(h:RowF f w l v)(g:G w w'):RowF f w' l v:=by
 obtain ⟨p,c,rfl,hc,h⟩:=h;refine ⟨p,c,rfl,hc,fun h0=>?_⟩;obtain ⟨b,o,rfl,hR⟩:=h h0;exact ⟨b,o,rfl,hR.grow g⟩
theorem Vac(w:Aa):RowF f w [] (.slice none 0 0):=⟨none,0,rfl,Ada _,fun h=>absurd h (Nat.lt_irrefl 0)⟩
theorem Wud{w:Aa}{base:Nat}{e:Ba}{v:Ga}{m:Nat}{l:List α}(h:w.ownsRow base e z v m (l.flatMap f))(hm:m=l.length):RowF f w l v:=by
 subst hm;obtain ⟨a,c,rfl,hc⟩:=Zpa h;refine ⟨a,c,rfl,hc,fun h0=>?_⟩;obtain ⟨b,c',hv,_,hR,_⟩:=Qva h h0;injection hv with hv _ _;subst hv;exact ⟨b,0,rfl,hR⟩
theorem Jjb(hf:∀ a,(f a).length=z){w:Aa}{b o:Nat}{l:List α}(h:RowAt w b o (l.flatMap f)){i:Nat}(hi:i<l.length):RowAt w b (o+i*z) (f l[i]):=by
 have:=h.part (i*z) z;rwa [Yle hf l i hi] at this
end
/-! loops that carry facts on the world -/
def BlkE(b:Nat)(e:Ba)(l:List Ga)(w:Aa):Prop:=Blk w b e l
def andE(p q:Aa→Prop)(w:Aa):Prop:=p w∧q w
def nilE(w:Aa):Prop:=True
theorem blkE{w:Aa}{b:Nat}{e:Ba}{l:List Ga}(h:Blk w b e l):BlkE b e l w:=h
theorem Yb{p q:Aa→Prop}{w:Aa}(h:p w)(k:q w):andE p q w:=⟨h,k⟩
theorem Wd(w:Aa):nilE w:=trivial
section
variable {P:Fa} {B:List Da→Aa→Prop} {n:Nat} {N T:Act→Aa→Prop} {X:List (Nat×(Act→Aa→Prop))} {σ:List Ent} {w:Aa}
theorem Uy{c:Code}{α:Type}(I:α→Aa→Prop)(E:Aa→Prop)(σc:List Ent)(σf:α→List Ent)(μ:α→Nat)(x0:α)(h0:I x0 w)(hE:E w)(hs:Sub (σf x0 ++ σc) σ)
 (round:∀ x w,I x w→E w→SZ P B n c (fun a' w'=>∃ y,Kn n (σf y ++ σc) a'∧I y w'∧E w'∧μ y < μ x) X T (σf x ++ σc) w):SZ P B n (.loop c) N X T σ w:=by
 refine Wqb (fun x w=>I x w∧E w) (fun x=>σf x ++ σc) μ x0 ⟨h0,hE⟩ hs fun x w ⟨h1,h2⟩=>?_;refine .mk fun a ha=>Code.wp_mono (fun e a w q=>?_) (round x w h1 h2 a ha)
 cases e with
 | normal=>obtain ⟨y,q1,q2,q3,q4⟩:=q;exact ⟨y,q1,⟨q2,q3⟩,q4⟩
 | _=>exact q
end
theorem Wtb{w:Aa}{D:Nat→Prop}:∀ {ls:List Nd} {news:List Ga},KRow w D ls news→onesB news=true
 | [],news,h=>by rw [show news=[] from h];rfl
 | t::ls,news,h=>by
  obtain ⟨v,r,rfl,hkn,hr⟩:=h;rw [Zvc] at hkn;obtain ⟨p,c,rfl,_⟩:=hkn;have:=Wtb hr;unfold onesB at this ⊢;rw [List.all_append,this,Bool.and_true];rfl
/-! own rows -/
theorem Yab{w:Aa}{base b:Nat}{e:Ba}{z m:Nat}{l:List Ga}(h:Blk w b e l)(hb:base≤b)(hl:l.length=m*z)(hm:m≤1000000):w.ownsRow base e z (.slice (some ⟨b,0,none⟩) m m) m l :=
 ⟨hl,.inr ⟨b,m,l.toArray,rfl,hb,h,Ada _,by simp only [maxLen];omega,by simpa using hl,by simp [← hl]⟩⟩
def Dx(base:Nat)(X:List Nat)(b:Nat):Prop:=base≤b∧b∉X
def OwnK(e:Ba)(D:Nat→Prop)(base:Nat)(w:Aa)(ks:List Nd)(s:Ga):Prop :=
 ∃ xs,w.ownsRow base e 9 s ks.length xs∧KRow w (fun b=>D b∧some b≠s.ownBlock) ks xs∧∀ b,s.ownBlock=some b→D b
section
variable {e:Ba} {D:Nat→Prop} {base:Nat} {w w':Aa} {ks:List Nd} {s:Ga}
theorem Jte(e:Ba)(D:Nat→Prop)(base:Nat)(w:Aa):OwnK e D base w [] (.slice none 0 0):=⟨[],Je _ _ _ _,Xsb,fun b h=>by cases h⟩
theorem OwnK.slice(h:OwnK e D base w ks s):∃ a c,s = .slice a ks.length c:=by
 obtain ⟨xs,h1,_⟩:=h;obtain ⟨a,c,h2,_⟩:=Zpa h1;exact ⟨a,c,h2⟩
theorem OwnK.ge(h:OwnK e D base w ks s):∀ k,s.ownBlock=some k→base≤k:=by
 obtain ⟨xs,h1,_⟩:=h;exact fun k hk=>(h1.lt k hk).1
theorem OwnK.lt(h:OwnK e D base w ks s):∀ k,s.ownBlock=some k→k<w.heap.size:=by
 obtain ⟨xs,h1,_⟩:=h;exact fun k hk=>(h1.lt k hk).2
theorem OwnK.ne(h:OwnK e D base w ks s){b:Nat}(hb:¬ D b):some b≠s.ownBlock:=by
 obtain ⟨xs,_,_,h3⟩:=h;exact fun he=>hb (h3 b he.symm)
theorem OwnK.grow(h:OwnK e D base w ks s)(g:G w w'):OwnK e D base w' ks s:=by
 obtain ⟨xs,h1,h2,h3⟩:=h;exact ⟨xs,Xw h1 g,h2.grow g,h3⟩
theorem OwnK.keep(h:OwnK e D base w ks s){b:Nat}(hg:w.grownBy w' (some b))(hb:¬ D b):OwnK e D base w' ks s:=by
 obtain ⟨xs,h1,h2,h3⟩:=h;refine ⟨xs,Ym h1 hg (.inr fun he=>hb (h3 b he)),h2.keep hg fun k hk _ he=>?_,h3⟩;injection he with he;exact hb (he▸hk.1)
theorem OwnK.kd(h:OwnK e D base w ks s){D':Nat→Prop}(hD:∀ b,D b→D' b):Kd w D' ks s:=by
 obtain ⟨xs,h1,h2,h3⟩:=h;exact Zug h1 rfl (h2.mono fun b hb _=>hD b hb.1) fun b hb=>hD b (h3 b hb)
theorem Vbc{b:Nat}{t:Nd}{v:Ga}(h:Blk w b e (ndCells t v))(hb:base≤b)(hk:Kd w (fun k=>D k∧k≠b) t.kids v)(hD:D b):OwnK e D base w [t] (.slice (some ⟨b,0,none⟩) 1 1):=by
 refine ⟨_,Yab h hb J Od,Vd (hk.mono fun k hk _=>⟨hk.1,fun he=>?_⟩),fun k hk=>?_⟩;injection he with he;exact hk.2 he;injection hk with hk;exact hk▸hD
theorem OwnK.append{ls:List Nd}{news:List Ga}{a':Option Addr}{c':Nat}{xs:List Ga}(h:OwnK e D base w ks s)(hx:w.ownsRow base e 9 s ks.length xs)(hX:KRow w (fun b=>D b∧some b≠s.ownBlock) ks xs)
 (hn:KRow w (fun b=>D b∧some b≠s.ownBlock) ls news) (hD:D w.heap.size) (ho:w'.ownsRow base e 9 (.slice a' (ks.length+ls.length) c') (ks.length+ls.length) (xs++news)) (hg:w.grownBy w' s.ownBlock)
 (hat:(Ia a' (ks.length+ls.length) c').ownBlock=s.ownBlock∨(Ia a' (ks.length+ls.length) c').ownBlock=some w.heap.size):OwnK e D base w' (ks++ls) (.slice a' (ks++ls).length c'):=by
 have hlen:(ks++ls).length=ks.length+ls.length:=by simp
 refine ⟨xs++news,by rw [hlen];exact ho,?_,?_⟩;have h1:=Wpa hX hn;rw [hlen];refine Qc (fun b hb hlt=>⟨hb.1,?_⟩) (fun b hb hlt=>hg.block b hlt hb.2) _ _ h1;rcases hat with he|he <;> rw [he]
 exact hb.2;intro e;injection e with e;omega;rw [hlen];intro b hb;rcases hat with he|he <;> rw [he] at hb
 obtain ⟨_,_,_,h3⟩:=h;exact h3 b hb;injection hb with hb;exact hb▸hD
end
section
variable {P:Fa} {Z:List Da→Act→Aa→Prop} {ops:List Oper} {cl:List Nat} {lv:List Bool} {W0:Aa} {n:Nat} {K:Act→Aa→Prop} {k:Nat} {rest:List Oper} {σ:List Ent} {w:Aa} {d:Nat} {ty:Ba} {pos:String} {after:Array Edge}
theorem Vcc{t e base q q':Nat}{x y:Ea}{s zv:Ga}{news:List Ga}{b' o':Nat}{D:Nat→Prop}{ks ls:List Nd}(hb:(Aaa (clOf cl k) 2&&Aia d n)=true)(ht:tyElem P t=some (e,9,104))(hzv:zeroOf P e=some zv)
 (hzs:zv.cells.size=9) (hx:Ev n σ True x s) (hO:OwnK e D base w ks s) (hy:Ev n σ True y (.slice (some ⟨b',o',none⟩) q q')) (hq:ls.length=q) (hn:RowAt w b' o' news) (hK:KRow w (fun b=>D b∧some b≠s.ownBlock) ls news)
 (hlen:ks.length+ls.length≤10000000) (hbase:base≤w.heap.size) (hD:D w.heap.size)
 (h:∀ a' c' w',OwnK e D base w' (ks++ls) (.slice a' (ks++ls).length c')→w.grownBy w' s.ownBlock→SR P Z ops cl lv W0 n K (k+1) rest ((d,True,.slice a' (ks++ls).length c') :: σ) w') :
 SR P Z ops cl lv W0 n K k (⟨some d,.call { callee:=.builtin .append,args:=#[x,y],argTypes:=#[t,t] },ty,pos,after,none⟩::rest) σ w:=by
 obtain ⟨xs,h1,h2,h3⟩:=id hO;subst hq;have ones:=Wtb hK;refine Um hb ht hzv hzs Od hx h1 hy (Woa hK) hn ones (by simp only [maxLen];omega) O hbase fun a' c' w' ho hg hat=>?_;have:=h a' c' w' (hO.append h1 h2 hK hD ho hg hat) hg;rwa [Ala] at this
end
theorem Qgc{l:List Nd}{i:Nat}(f:Nd→Nat)(h:i<l.length):((l.take (i+1)).map f).sum=((l.take i).map f).sum+f l[i]:=by
 rw [Uhb f l i h,Bda];simp
theorem Vre:∀ (t:Nd) (v:Ga) (D:Nat→Prop) (w:Aa),Kd w D t.kids v→count t≤4611686018427387904→Ret PP 21 #[ndV t v] w fun r w'=>r = .int .i64 (count t:Nat)∧G w w':=by
 refine Nd.ind fun t ih v D w hk hc=>?_;obtain ⟨p,c,rfl,hcap,hks⟩:=hk;have g:=G.refl w;have hlen:=Wn t;refine WK 21 [0] Tryz.func21 ?_;refine BM fun _ w1 _ _ g E=>?_;refine AU ?_;refine Vv (fun (i:Nat) u1=>(i≤t.kids.length)∧G w1 u1) [(1,True,_),(2,True,_)] (fun (i:Nat)=>[(3,True,.int .i64 ((1+((t.kids.take i).map count).sum:Nat):Int)),(4,True,.int .i64 i)]) (fun (i:Nat)=>t.kids.length-i) (0) ⟨by simp,G.refl _⟩ (Za J (Za J (Za J (Za J (Zr _))))) ?_;rintro i u1 ⟨hI1,gl1⟩;have g:=g.trans gl1;replace E:=E.grow gl1;refine Zj (Zj (Zl (Zv J (Xg Zh J (Xl Zg J (E.g0.at_ J) (Yha Zc J (Uua J J (Ze (kq (Wz J (fun h1=>?_) (fun h1=>?_)))))))))));replace h1:i<t.kids.length:=by simp only [Wpg] at h1;omega
 obtain ⟨b,o,rfl,hD,xs,hR,hX⟩:=hks O;obtain ⟨p',c',hcell,hkid⟩:=Zab hR hX h1;have hck:=Jk h1;refine Yw (kq (Zj (Yx (Zl (Zv J (Xg Zh J (Xl Zg J (E.g0.at_ J) (Zv J (Xeb Zc J J O (Wm Zf J J (hcell.grow g) (Wy J (Zu Qpb Xy (aqc J aq0) J) (ih _ (Ara h1) _ _ _ (hkid.grow g) O) (fun w18 g18=>?_))))))))))));have gl1:=gl1.trans (g18);replace E:=E.grow g18;refine AU ?_;refine SK [3,4,1,2] ?_;refine Ze (fun a ha=>?_);have e:((1+((t.kids.take i).map count).sum:Nat):Int)+(count t.kids[i]:Nat)=((1+((t.kids.take (i+1)).map count).sum:Nat):Int):=by rw [Qgc count h1];omega
 rw [e] at ha;exact ⟨i+1,ha,⟨h1,gl1⟩,O⟩;replace h1:i=t.kids.length:=by simp only [Wqg] at h1;omega
 refine RTN ?_;refine ⟨?_,g⟩;rw [h1,Aza,← Qi]
theorem Zyc{α:Type}{l:List α}{i:Nat}(h:i<l.length):l.take (i+1)=l.take i++[l[i]]:=by
 rw [Bea,Aca h];rfl
def RetNd(t:Nd)(base:Nat)(r:Ga)(w:Aa):Prop:=∃ p c,r=ndV t (.slice p t.kids.length c)∧Kd w (fun b=>base≤b) t.kids (.slice p t.kids.length c)
def listN(t:Nd):List Nd:=para (fun t l=>t::l.flatten) t
theorem Xla(t:Nd):listN t=t::t.kids.flatMap listN:=by rw [listN,Zla,List.flatMap_def];rfl
theorem Ybb:∀ t,(listN t).length=count t:=by
 refine Nd.ind fun t ih=>?_;rw [Xla,Qi,Ama,Bsa,Bha];congr 2;exact Bta ih
theorem Jkb{l:List Nd}{i:Nat}(h:i<l.length):(l.take (i+1)).flatMap listN=(l.take i).flatMap listN++listN l[i]:=by rw [Zyc h,Bua];simp only [Aqa,List.flatMap_nil,Bca]
theorem Zzc(l:List Nd)(i:Nat):((l.take i).flatMap listN).length=((l.take i).map count).sum:=by
 rw [Bsa];congr 1;exact Bta fun k _=>Ybb k
theorem Wvd:∀ (t:Nd) (v:Ga) (D:Nat→Prop) (w:Aa),Kd w D t.kids v→count t≤1000000→Ret PP 18 #[ndV t v] w fun r w'=>Kd w' (fun b=>D b∨w.heap.size≤b) (listN t) r∧G w w':=by
 refine Nd.ind fun t ih v D w hk hc=>?_;obtain ⟨p,c,rfl,hcap,hks⟩:=hk;have hlen:=Wn t;have hk0:Kd w (fun b=>D b∧b<w.heap.size) t.kids (.slice p t.kids.length c):=Kd.lt ⟨p,c,rfl,hcap,hks⟩;have g:=G.refl w;refine Vo (m:=23) Tryz.func18 J J [(0,True,_)] (Za J (Zr _)) ?_;refine Zj (Zl (Zda J (Zd J) J ?_));intro b1 w1 N1;have l1:=N1.ge g;have g:=g.trans N1.g;have E:=(Qp _).new N1;refine Yr J (Ze (kq (Zj (Zl (Wm Zf J J E.g0.row (Yc _ J Zc Zs (pqc J pq0) J J ?_))))));intro b6 w6 N6;have l6:=N6.ge g;have g:=g.trans N6.g;replace E:=E.new N6;have x6_1:=E.ne 0 1 rfl rfl rfl;have hO:OwnK 26 (fun b=>(D b∧b<w.heap.size)∨Dx w.heap.size [b1] b) w.heap.size w6 [t] (.slice (some ⟨b6,0,none⟩) 1 1):=Vbc E.g0 l6 ((hk0.grow g).mono fun k hk _=>⟨.inl hk,O⟩) (.inr ⟨l6,by simp;omega⟩);refine Yr J (Ze (kq (Zj (Zj (Zl (Yr J (Ze (kq (Yx (?_))))))))));replace E:=E.sel [false,true];have hnd1:=E.1;refine Uy (fun (x:Nat×Option Addr×Nat) u1=>match x with|⟨i,a,ca⟩=>(i≤t.kids.length∧OwnK 26 (fun b=>(D b∧b<w.heap.size)∨Dx w.heap.size [b1] b) w.heap.size u1 (t::(t.kids.take i).flatMap listN) (.slice a (t::(t.kids.take i).flatMap listN).length ca))∧G w u1) _ [(1,True,_),(2,True,_)] (fun (x:Nat×Option Addr×Nat)=>match x with|⟨i,a,ca⟩=>[(3,True,.slice a (t::(t.kids.take i).flatMap listN).length ca),(4,True,.int .i64 i)]) (fun (x:Nat×Option Addr×Nat)=>match x with|⟨i,a,ca⟩=>t.kids.length-i) ((0,some ⟨b6,0,none⟩,1)) ⟨⟨Aha _,hO⟩,g⟩ (Yb (blkE E.g0) (Wd _)) (Za J (Za J (Za J (Za J (Zr _))))) ?_;clear E;rintro ⟨i,a,ca⟩ u1 ⟨hI1,gl1⟩ ⟨B1,_⟩;replace B1:Blk _ _ _ _:=B1;have g:=gl1;obtain ⟨hi,hO⟩:=hI1
 have E:=Vma (L:=[(b1,_,_)]) hnd1 ⟨B1,trivial⟩ rfl;refine Zj (Zj (Zl (Zv J (Xg Zh J (Xl Zg J (E.g0.at_ J) (Yha Zc J (Uua J J (Ze (kq (Wz J (fun h1=>?_) (fun h1=>?_)))))))))));replace h1:i<t.kids.length:=by simp only [Wpg] at h1;omega
 obtain ⟨b,o,rfl,hD,xs,hR,hX⟩:=hks O;obtain ⟨p',c',hcell,hkid⟩:=Zab hR hX h1;have hck:=Jk h1;have hcl:=Zzc t.kids i;have hu:=g.size;have hB1lt:=E.g0.lt;have hOlt:=hO.lt;refine Yw (kq (Zj (Yx (Zl (Zv J (Xg Zh J (Xl Zg J (E.g0.at_ J) (Zv J (Xeb Zc J J O (Wm Zf J J (hcell.grow g) (Xm J (Zu Xfb Xy (aqc J aq0) J) (ih _ (Ara h1) _ (fun b=>D b∧b<w.heap.size) _ (hkid.old g) O) ?_)))))))))));rintro v20 w20 ⟨⟨p2,c2,rfl,hc2,hr2⟩,g20⟩;refine ⟨fun _=>g20,?_⟩;have g:=g.trans g20;have hln:=Ybb t.kids[i];have hpos:=Yza t.kids[i];obtain ⟨b2,o2,rfl,hD2,ys,hR2,hX2⟩:=hr2 O;replace E:=E.grow g20;have hO:=hO.grow (g20);have hOo:=hO;refine Vcc J Zc Zs J (Zd J) hO (Zd J) J hR2 (hX2.mono fun k hk _=>⟨hk.elim .inl fun h=>.inr ⟨by have h:u1.heap.size≤k:=h;omega,by have h:u1.heap.size≤k:=h;simp;omega⟩,fun he=>by have:=hOlt k he.symm;have hge:=hO.ge k he.symm;rcases hk with ⟨_,h⟩|h <;> omega⟩) (by rw [Ama];omega) (by have:=g.size;omega) (.inr ⟨by have:=g.size;omega,by have:=E.g0.lt;simp;omega⟩) ?_
 intro a21 c21 w21 hO hg21;replace E:=E.keep hg21 (Aya.2 ⟨(hOo.ne (by rintro (h|h);exact absurd h.2 O;simp [Dx] at h)),Bva _⟩);have g:=Jf g hg21 (fun k hk=>hOo.ge k hk);refine Yr J (Ze (kq (Zl (Zv J (Jga J J O (Yr J (Wx [(3,_,_),(4,_,_),(1,_,_),(2,_,_)] (Za J (Za J (Za J (Za J (Zr _))))) (Ze (fun a ha=>?_)))))))));rw [show t::(t.kids.take i).flatMap listN++listN t.kids[i]=t::(t.kids.take (i+1)).flatMap listN by rw [Jkb h1];rfl] at ha hO;exact ⟨(i+1,a21,c21),ha,⟨⟨h1,hO⟩,g⟩,(Yb (blkE E.g0) (Wd _)),by show t.kids.length-(i+1)<t.kids.length-i;omega⟩;replace h1:i=t.kids.length:=by simp only [Wqg] at h1;omega
 subst h1;rw [Aza,← Xla] at hO;refine Xea J (kq (Zj (Zl (Zv J (Yr J (Ze (kq (Xo (Wj J J ?_)))))))));refine ⟨?_,g⟩;rw [Aza,← Xla];exact hO.kd fun b hb=>hb.elim (fun h=>.inl h.1) (fun h=>.inr h.1)
def typeNames:List (List UInt8):=[[105,110,116],[98,111,111,108],[91,93,105,110,116],[99,104,97,110],[102,117,110,99],[109,117,116,101,120],[114,119,109,117,116,101,120],[103,114,111,117,112],[111,110,99,101],[97,116,111,109,105,99]]
def typeNameB(s:List UInt8):Bool:=anyS typeNames s
theorem Wwd(s:List UInt8)(w:Aa):Ret PP 98 #[Str s] w fun v w'=>v = .bool (typeNameB s)∧G w w':=by
 have g:=G.refl w;refine WK 15 [0] Tryz.func98 ?_;refine AU ?_;refine' OR [2] (fun hb1=>?y1) (kq ?n1)
 case y1 =>
  refine AU ?_;refine' OR [2] (fun hb2=>?y2) knr
  case y2 =>
   refine AU ?_;refine' OR [2] (fun hb3=>?y3) knr
   case y3 =>
    refine AU ?_;refine' OR [2] (fun hb4=>?y4) knr
    case y4 =>
     refine AU ?_;refine' OR [2] (fun hb5=>?y5) knr
     case y5 =>
      refine AU ?_;refine' OR [2] (fun hb6=>?y6) knr
      case y6 =>
       refine AU ?_;refine' OR [2] (fun hb7=>?y7) knr
       case y7 =>
        refine AU ?_;refine' OR [2] (fun hb8=>?y8) knr
        case y8 =>
         refine AU ?_;refine' OR [2] (fun hb9=>?y9) knr
         case y9 =>
          refine AU ?_;refine SK [4,2] ?_;exact Ze knr
 case n1 =>
  refine IF (fun h10=>?_) fun h10=>?_;(try simp only [bsimp] at h10);refine RTN ?_;refine ⟨Wog ?_,g⟩;simp only [typeNameB,anyS,typeNames];exact (h10).symm;refine RTN ?_;refine ⟨Wog ?_,g⟩;simp only [typeNameB,anyS,typeNames];exact (h10).symm
def leafB(t:Nd):Bool:=decide ((t.kids.length:Int)=0)
def isTypeB(t:Nd):Bool:=bif decide (t.kind=8) then nameB t.text&&leafB t else bif decide (t.kind=7) then typeNameB t.text&&leafB t else false
theorem Yac(t:Nd)(p:Option Addr)(c:Nat)(w:Aa):Ret PP 81 #[ndV t (.slice p t.kids.length c)] w fun v w'=>v = .bool (isTypeB t)∧G w w':=by
 have g:=G.refl w;refine WK 27 [0] Tryz.func81 ?_;refine BM fun _ _ _ _ g E=>?_;refine IF (fun h1=>?_) fun h1=>?_;(try simp only [bsimp] at h1);refine AU ?_;refine CP (Wqa _ _) (fun w9 g9=>?_);have g:=g.trans g9;replace E:=E.grow g9;refine RTN ?_;refine ⟨Wog ?_,g⟩;unfold isTypeB;simp only [h1,Wug,Wtg] <;> rfl
 refine IF (fun h2=>?_) fun h2=>?_;(try simp only [bsimp] at h2);refine AU ?_;refine CP (Wwd _ _) (fun w20 g20=>?_);have g:=g.trans g20;replace E:=E.grow g20;refine RTN ?_;refine ⟨Wog ?_,g⟩;unfold isTypeB;simp only [h1,h2,Wug,Wtg] <;> rfl
 refine RTN ?_;refine ⟨Wog ?_,g⟩;unfold isTypeB;simp only [h1,h2,Wug,Wtg] <;> rfl
def binOps:List (List UInt8):=[[124,124],[38,38],[61,61],[33,61],[60],[60,61],[62],[62,61],[43],[45],[42],[47],[37]]
theorem Jue(s:List UInt8)(w:Aa):Ret PP 128 #[Str s] w fun v w'=>v = .bool (anyS binOps s)∧G w w':=by
 have g:=G.refl w;refine WK 18 [0] Tryz.func128 ?_;refine AU ?_;refine' OR [2] (fun hb1=>?y1) (kq ?n1)
 case y1 =>
  refine AU ?_;refine' OR [2] (fun hb2=>?y2) knr
  case y2 =>
   refine AU ?_;refine' OR [2] (fun hb3=>?y3) knr
   case y3 =>
    refine AU ?_;refine' OR [2] (fun hb4=>?y4) knr
    case y4 =>
     refine AU ?_;refine' OR [2] (fun hb5=>?y5) knr
     case y5 =>
      refine AU ?_;refine' OR [2] (fun hb6=>?y6) knr
      case y6 =>
       refine AU ?_;refine' OR [2] (fun hb7=>?y7) knr
       case y7 =>
        refine AU ?_;refine' OR [2] (fun hb8=>?y8) knr
        case y8 =>
         refine AU ?_;refine' OR [2] (fun hb9=>?y9) knr
         case y9 =>
          refine AU ?_;refine' OR [2] (fun hb10=>?y10) knr
          case y10 =>
           refine AU ?_;refine' OR [2] (fun hb11=>?y11) knr
           case y11 =>
            refine AU ?_;refine' OR [2] (fun hb12=>?y12) knr
            case y12 =>
             refine AU ?_;refine SK [4,2] ?_;exact Ze knr
 case n1 =>
  refine IF (fun h13=>?_) fun h13=>?_;(try simp only [bsimp] at h13);refine RTN ?_;refine ⟨Wog ?_,g⟩;simp only [anyS,binOps];exact (h13).symm;refine RTN ?_;refine ⟨Wog ?_,g⟩;simp only [anyS,binOps];exact (h13).symm
def typTab:List (List UInt8×Int):=[([105,110,116],1),([98,111,111,108],2),([91,93,105,110,116],5),([99,104,97,110],6),([102,117,110,99],7),([109,117,116,101,120],8),([114,119,109,117,116,101,120],9),([103,114,111,117,112],10),([111,110,99,101],11),([97,116,111,109,105,99],12)]
def typKind(s:List UInt8):Int:=(typTab.lookup s).getD 0
def ofF(t:Nd):Ty×Bool :=
 bif !leafB t then (ty0,false)
 else bif decide (t.kind=9) then (ty0,decide (t.text=[]))
 else bif decide (t.kind=8) then (bif nameB t.text then (⟨4,t.text⟩,true) else (ty0,false))
 else bif decide (t.kind=7) then (bif typeNameB t.text then (⟨typKind t.text,[]⟩,true) else (ty0,false))
 else (ty0,false)
theorem Vse:((List.range 13).all fun i=>anyS [[],[110,105,108],[99,104,97,110,32,105,110,116],[102,117,110,99,40,41]] (typTexts.getD i []) || (typeNameB (typTexts.getD i [])&&decide (typKind (typTexts.getD i [])=(i:Int))))=true:=KR
theorem Yma{i:Nat}(hi:i<13){s:List UInt8}(hs:anyS [[],[110,105,108],[99,104,97,110,32,105,110,116],[102,117,110,99,40,41]] s=false)(h:typTexts.getD i []=s):typeNameB s=true∧typKind s=i:=by
 have:=Ana.1 Vse i (Baa.2 hi);rw [h,hs] at this;simpa using this
theorem Vte:(typeNames.all fun s=>anyS [[99,104,97,110],[102,117,110,99]] s || (List.range 13).any fun i=>decide (typTexts.getD i []=s))=true:=KR
theorem Yna{s:List UInt8}(h1:decide (s=[99,104,97,110])=false)(h2:decide (s=[102,117,110,99])=false)(h:∀ i,i<13→typTexts.getD i []≠s):typeNameB s=false:=by
 cases hn:typeNameB s;rfl;have:=Ana.1 Vte s ((Jib _ _).1 hn);simp only [anyS,h1,h2,Aja,Bool.false_or,List.any_eq_true,Wpg,Baa] at this;obtain ⟨i,hi,he⟩:=this;exact absurd he (h i hi)
theorem Wfa{s:List UInt8}(h:anyS [[],[110,105,108],[99,104,97,110,32,105,110,116],[102,117,110,99,40,41]] s=true):typeNameB s=false:=by
 have:=(Jib _ _).1 h;simp only [List.mem_cons,List.not_mem_nil,or_false] at this;rcases this with rfl|rfl|rfl|rfl <;> rfl
theorem Jve(t:Nd)(p:Option Addr)(c:Nat)(w:Aa)(hL:Laid w)(hb3:10≤w.heap.size)(hTx:LaidT w)(hlen:t.kids.length≤1000000):Ret PP 85 #[ndV t (.slice p t.kids.length c)] w fun v w'=>v = .tuple #[tyV (ofF t).1,.bool (ofF t).2]∧G w w':=by
 have g:=G.refl w;refine WK 56 [0] Tryz.func85 ?_;refine BM fun _ w1 _ _ g E=>?_;refine AN fun b2 w2 _ _ g E=>?_;refine IF (fun h1=>?_) fun h1=>?_
 have hq:leafB t=false:=by
  have:0<t.kids.length:=by simp only [Wpg] at h1;omega
  unfold leafB;rw [Wqg];omega
 refine AS fun _ _ _ g E=>?_;refine RTN ?_;refine ⟨?_,g⟩;have h0:Str [] = .string ⟨#[]⟩:=rfl;unfold ofF;simp only [hq,Afa,Aga,h1,Wug,Wtg]
 first
 | rfl
 | (rw [Wrg h6];rfl)
 | (rw [Wrg h7];rfl)
 | (rw [Wfa h11];rfl)
 | (obtain ⟨e1,e2⟩:=Yma h12 h11 (Wrg h13);rw [e1,e2];rfl)
 | (rw [Yna h6 h7 (fun j hj=>hI1.2 j O)];rfl)
 have hq:leafB t=true:=by
  unfold leafB;rw [Wpg];simp only [Wqg] at h1;omega
 refine IF (fun h2=>?_) fun h2=>?_;(try simp only [bsimp] at h2);refine AU ?_;refine Xh (rowR (some b2)) [3,3,0,3,1,3] [0,0,2,6,1,31] mix KR [0,1,2,3,4,5] J ?_;have g:=gdr g;replace E:=E.dr;refine Zx 0 J J (fun _=>Uv [_,_] Xk J Vm (Vj) J) (Zx 1 J J (fun _=>Zi Xe (Zd J)) (Yi 2 J J (fun w1 hx=>Zq Yy (Zd J) (fun _=>(E.g1.keep hx (fun h=>E.ne 1 0 J J J (Option.some.inj h))).at_ J)) (Zx 3 J J (fun _=>Ulb (Zd J) Xa) (Zt 4 J J ?_))));refine Zn (L':=[5]) [3,3,0,3,2,3] J J J ?_;refine AS fun _ hgS2 _ g E=>?_;refine Zy (hgS2) ?_;refine Zx 5 J J (fun _=>Jc (Zd J)) (TK [2,3] (Jg (kq (Xo (Yua (rs:=[.cell 2 24,.tmp 3]) (vs:=[_,_]) J J (Zra J Zm J (E.g0.row) (Jna J (Ub))) J ?_)))));refine ⟨?_,g⟩;have h0:Str [] = .string ⟨#[]⟩:=rfl;unfold ofF;simp only [hq,Afa,Aga,h1,h2,Wug,Wtg]
 first
 | rfl
 | (rw [Wrg h6];rfl)
 | (rw [Wrg h7];rfl)
 | (rw [Wfa h11];rfl)
 | (obtain ⟨e1,e2⟩:=Yma h12 h11 (Wrg h13);rw [e1,e2];rfl)
 | (rw [Yna h6 h7 (fun j hj=>hI1.2 j O)];rfl)
 refine IF (fun h3=>?_) fun h3=>?_;(try simp only [bsimp] at h3);refine AU ?_;refine CP (Wtd _ _ (hL.grow g) (by have:=g.size;omega)) (fun w23 g23=>?_);have g:=g.trans g23;replace E:=E.grow g23;refine Ze (kq (Wz J (fun h4=>?_) (fun h4=>?_)));(try simp only [bsimp] at h4);refine Zj (Zl (Xg Xe J (Xl Yy J (E.g1.at_ J) (Vfb Xk Vm (pqc J (pqc J pq0)) J J (AS fun _ _ _ g E=>?_)))));refine RTN ?_;refine ⟨?_,g⟩;have h0:Str [] = .string ⟨#[]⟩:=rfl;unfold ofF;simp only [hq,Afa,Aga,h1,h2,h3,h4,Wug,Wtg]
 first
 | rfl
 | (rw [Wrg h6];rfl)
 | (rw [Wrg h7];rfl)
 | (rw [Wfa h11];rfl)
 | (obtain ⟨e1,e2⟩:=Yma h12 h11 (Wrg h13);rw [e1,e2];rfl)
 | (rw [Yna h6 h7 (fun j hj=>hI1.2 j O)];rfl)
 refine AS fun _ _ _ g E=>?_;refine RTN ?_;refine ⟨?_,g⟩;have h0:Str [] = .string ⟨#[]⟩:=rfl;unfold ofF;simp only [hq,Afa,Aga,h1,h2,h3,h4,Wug,Wtg]
 first
 | rfl
 | (rw [Wrg h6];rfl)
 | (rw [Wrg h7];rfl)
 | (rw [Wfa h11];rfl)
 | (obtain ⟨e1,e2⟩:=Yma h12 h11 (Wrg h13);rw [e1,e2];rfl)
 | (rw [Yna h6 h7 (fun j hj=>hI1.2 j O)];rfl)
 refine IF (fun h5=>?_) fun h5=>?_;(try simp only [bsimp] at h5);refine IF (fun h6=>?_) fun h6=>?_;(try simp only [bsimp] at h6);refine AS fun _ _ _ g E=>?_;refine RTN ?_;refine ⟨?_,g⟩;have h0:Str [] = .string ⟨#[]⟩:=rfl;unfold ofF;simp only [hq,Afa,Aga,h1,h2,h3,h5,h6,Wug,Wtg]
 first
 | rfl
 | (rw [Wrg h6];rfl)
 | (rw [Wrg h7];rfl)
 | (rw [Wfa h11];rfl)
 | (obtain ⟨e1,e2⟩:=Yma h12 h11 (Wrg h13);rw [e1,e2];rfl)
 | (rw [Yna h6 h7 (fun j hj=>hI1.2 j O)];rfl)
 refine IF (fun h7=>?_) fun h7=>?_;(try simp only [bsimp] at h7);refine AS fun _ _ _ g E=>?_;refine RTN ?_;refine ⟨?_,g⟩;have h0:Str [] = .string ⟨#[]⟩:=rfl;unfold ofF;simp only [hq,Afa,Aga,h1,h2,h3,h5,h6,h7,Wug,Wtg]
 first
 | rfl
 | (rw [Wrg h6];rfl)
 | (rw [Wrg h7];rfl)
 | (rw [Wfa h11];rfl)
 | (obtain ⟨e1,e2⟩:=Yma h12 h11 (Wrg h13);rw [e1,e2];rfl)
 | (rw [Yna h6 h7 (fun j hj=>hI1.2 j O)];rfl)
 refine AU ?_;refine' OR [1,2,3] (fun hb8=>?y8) (kq ?n8)
 case y8 =>
  refine AU ?_;refine' OR [1,2,3] (fun hb9=>?y9) knr
  case y9 =>
   refine AU ?_;refine' OR [1,2,3] (fun hb10=>?y10) knr
   case y10 =>
    refine AU ?_;refine SK [37,1,2,3] ?_;exact Ze knr
 case n8 =>
  refine Wz J (fun h11=>?_) (fun h11=>?_);replace h11:(anyS [[],[110,105,108],[99,104,97,110,32,105,110,116],[102,117,110,99,40,41]] t.text)=true:=h11;refine Zj (Zl (Vfb Xk Vm pq0 J J (AS fun _ _ _ g E=>?_)));refine Yr J (Ze (kq (Xo (Yua (rs:=[.cell 2 24,.tmp 3]) (vs:=[_,_]) J J (Zra J Zm J (E.g0.row) (Jna J (Ub))) J ?_))));refine ⟨?_,g⟩;have h0:Str [] = .string ⟨#[]⟩:=rfl;unfold ofF;simp only [hq,Afa,Aga,h1,h2,h3,h5,h6,h7,h11,Wug,Wtg]
  first
  | rfl
  | (rw [Wrg h6];rfl)
  | (rw [Wrg h7];rfl)
  | (rw [Wfa h11];rfl)
  | (obtain ⟨e1,e2⟩:=Yma h12 h11 (Wrg h13);rw [e1,e2];rfl)
  | (rw [Yna h6 h7 (fun j hj=>hI1.2 j O)];rfl)
  replace h11:(anyS [[],[110,105,108],[99,104,97,110,32,105,110,116],[102,117,110,99,40,41]] t.text)=false:=h11;refine Yw (kq (Zj (Zl (Wm Ubb J J (hTx.grow g) (Zv J (Ze (kq (Yx (Vv (fun (i:Nat) u1=>(i≤13∧∀ j,j<i→typTexts.getD j []≠t.text)∧G w2 u1) [(1,True,_),(2,True,_),(43,True,_)] (fun (i:Nat)=>[(44,True,.int .i64 i)]) (fun (i:Nat)=>13-i) (0) ⟨⟨Aha _,fun j hj=>absurd hj (Aua j)⟩,G.refl _⟩ (Za J (Za J (Za J (Za J (Zr _))))) ?_)))))))));rintro i u1 ⟨hI1,gl1⟩;have g:=g.trans gl1;replace E:=E.grow gl1;refine Zj (Zl (Uua J J (Ze (kq (Zj (Wz J (fun h12=>?_) (fun h12=>?_)))))));replace h12:i<13:=by simp only [Wpg] at h12;omega
  refine Yw (kq (Zj (Yx (Zj (Zl (Zv J (Zz J (fun _=>Yee Zvd (Zd J) (Zd J) (fun _=>O) (fun _=>by show (typTexts.map Str).toArray[((i:Nat):Int).toNat]? = _;rw [List.getElem?_toArray];exact Jse (k:=(i:Int)) O O)) (Yr J (Yr J (Ze (kq (Zj (Zl (Zv J (Xg Xe J (Xl Yy J (E.g1.at_ J) (Wgd J J (?_))))))))))))))))));refine Ze (kq (Wz J (fun h13=>?_) (fun h13=>?_)));replace h13:(decide (typTexts.getD i []=t.text))=true:=h13;refine AS fun _ ga _ g E=>?_;first|replace gl1:=Yu gl1 ga O|clear gl1|skip
  refine RTN ?_;refine ⟨?_,g⟩;have h0:Str [] = .string ⟨#[]⟩:=rfl;unfold ofF;simp only [hq,Afa,Aga,h1,h2,h3,h5,h6,h7,h11,h12,h13,Wug,Wtg]
  first
  | rfl
  | (rw [Wrg h6];rfl)
  | (rw [Wrg h7];rfl)
  | (rw [Wfa h11];rfl)
  | (obtain ⟨e1,e2⟩:=Yma h12 h11 (Wrg h13);rw [e1,e2];rfl)
  | (rw [Yna h6 h7 (fun j hj=>hI1.2 j O)];rfl)
  replace h13:(decide (typTexts.getD i []=t.text))=false:=h13;refine AU ?_;refine SK [44,1,2,43] ?_;refine Ze (fun a ha=>?_)
  exact ⟨i+1,ha,⟨⟨h12,fun j hj=>by
   by_cases e:j=i;subst e;simpa using h13;exact hI1.2 j O⟩,gl1⟩,O⟩
  replace h12:i=13:=by simp only [Wqg] at h12;omega
  refine AS fun _ ga _ g E=>?_;first|replace gl1:=Yu gl1 ga O|clear gl1|skip
  refine RTN ?_;refine ⟨?_,g⟩;have h0:Str [] = .string ⟨#[]⟩:=rfl;unfold ofF;simp only [hq,Afa,Aga,h1,h2,h3,h5,h6,h7,h11,h12,Wug,Wtg]
  first
  | rfl
  | (rw [Wrg h6];rfl)
  | (rw [Wrg h7];rfl)
  | (rw [Wfa h11];rfl)
  | (obtain ⟨e1,e2⟩:=Yma h12 h11 (Wrg h13);rw [e1,e2];rfl)
  | (rw [Yna h6 h7 (fun j hj=>hI1.2 j O)];rfl)
 refine AS fun _ _ _ g E=>?_;refine RTN ?_;refine ⟨?_,g⟩;have h0:Str [] = .string ⟨#[]⟩:=rfl;unfold ofF;simp only [hq,Afa,Aga,h1,h2,h3,h5,Wug,Wtg]
 first
 | rfl
 | (rw [Wrg h6];rfl)
 | (rw [Wrg h7];rfl)
 | (rw [Wfa h11];rfl)
 | (obtain ⟨e1,e2⟩:=Yma h12 h11 (Wrg h13);rw [e1,e2];rfl)
 | (rw [Yna h6 h7 (fun j hj=>hI1.2 j O)];rfl)
structure Fld where
  name:List UInt8
  ty:Ty
def fldCells(f:Fld):List Ga:=[Str f.name,.int .i64 f.ty.kind,Str f.ty.name]
theorem Xrc(f:Fld):(fldCells f).length=3:=rfl
section
variable {α β:Type} (f:α→Option β)
def mapO:List α→Option (List β)
 | []=>some []
 | a::l=>match f a,mapO l with
  | some b,some r=>some (b::r)
  | _,_=>none
theorem Qtc:∀ (l:List α) (a:α),mapO f (l++[a])=match mapO f l,f a with
  | some r,some b=>some (r++[b])
  | _,_=>none
 | [],a=>by simp only [mapO,List.nil_append];cases f a <;> rfl
 | x::l,a=>by
  rw [List.cons_append,mapO,Qtc l a,mapO];cases f x <;> cases mapO f l <;> cases f a <;> rfl
theorem Vdc:∀ (l:List α) (a:α),a∈l→f a=none→mapO f l=none
 | x::l,a,h,hn=>by
  rw [mapO];rcases List.mem_cons.1 h with rfl|h;rw [hn];rw [Vdc l a h hn];cases f x <;> rfl
theorem Vec:∀ (l:List α) (r:List β),mapO f l=some r→r.length=l.length
 | [],r,h=>by injection h with h;subst h;rfl
 | x::l,r,h=>by
  rw [mapO] at h
  cases h1:f x with
  | none=>rw [h1] at h;cases h
  | some b =>
   cases h2:mapO f l with
   | none=>rw [h1,h2] at h;cases h
   | some r'=>rw [h1,h2] at h;injection h with h;subst h;rw [Ama,Vec l r' h2];rfl
end
def kid0(t:Nd):Nd:=t.kids.getD 0 nd0
def Qj(f:Nd):Option Fld:=bif !decide (f.kind=3) || !decide ((f.kids.length:Int)=1) then none else bif (ofF (kid0 f)).2 then some ⟨f.text,(ofF (kid0 f)).1⟩ else none
def isStr(name:List UInt8)(d:Nd):Bool:=!(!decide (d.kind=2) || !decide (d.text=name))
def Ut(t:Nd)(name:List UInt8):List Fld×Bool:=match t.kids.find? (isStr name) with
 | none=>([],false)
 | some d=>match mapO Qj d.kids with
  | none=>([],false)
  | some l=>(l,true)
theorem Vmf{name:List UInt8}{l:List Nd}{i:Nat}(hi:i<l.length)(h1:∀ j,(hj:j<l.length)→j<i→isStr name l[j]=false)(h2:isStr name l[i]=true):l.find? (isStr name)=some l[i]:=by
 rw [Bma];exact ⟨h2,i,hi,rfl,fun j hj=>by rw [h1 j O hj];rfl⟩
theorem Vnf{name:List UInt8}{l:List Nd}(h1:∀ j,(hj:j<l.length)→isStr name l[j]=false):l.find? (isStr name)=none:=by
 rw [Bna];intro x hx;obtain ⟨j,hj,rfl⟩:=Asa hx;rw [h1 j hj];simp
def FldV(r:List Fld×Bool)(v:Ga)(w:Aa):Prop:=∃ l,v = .tuple #[l,.bool r.2]∧RowF fldCells w r.1 l
theorem Vof{w:Aa}{base:Nat}{s:Ga}{l:List Fld}(h:w.ownsRow base 134 3 s l.length (l.flatMap fldCells)):RowF fldCells w l s:=Wud h rfl
theorem Vpf{t:Nd}(h:t.kids.length=1):∃ h0:0<t.kids.length,kid0 t=t.kids[0]:=⟨O,by simp [kid0,Aea,Aca (show 0<t.kids.length by omega)]⟩
theorem Jwe{l:List Nd}{k:Nat}(hk:k<l.length){r:List Fld}{b:Fld}(h:mapO Qj (l.take k)=some r)(hb:Qj l[k]=some b):mapO Qj (l.take (k+1))=some (r++[b]):=by
 rw [Zyc hk,Qtc,h,hb]
theorem Jxe{w:Aa}{base:Nat}{l:List Fld}(f:Fld){a:Option Addr}{c:Nat}(h:w.ownsRow base 134 3 (.slice a (l.length+1) c) (l.length+1) (l.flatMap fldCells++fldCells f)):w.ownsRow base 134 3 (.slice a (l++[f]).length c) (l++[f]).length ((l++[f]).flatMap fldCells):=by
 rw [Bua,Ala,Aqa,List.flatMap_nil,Bca];exact h
theorem Qyd(t:Nd)(name:List UInt8)(v:Ga)(D:Nat→Prop)(w:Aa)(hL:Laid w)(hb3:10≤w.heap.size)(hTx:LaidT w)(hk:Kd w D t.kids v)(hc:count t≤1000000):Ret PP 158 #[ndV t v,Str name] w fun r w'=>FldV (Ut t name) r w'∧G w w':=by
 obtain ⟨p,c,rfl,hcap,hks⟩:=hk;have g:=G.refl w;have hlen:=Wn t;refine WK 65 [0,1] Tryz.func158 ?_;refine BM fun _ w2 _ _ g E=>?_;refine AU ?_;refine Vv (fun (i:Nat) u1=>(i≤t.kids.length∧∀ j,(hj:j<t.kids.length)→j<i→isStr name t.kids[j]=false)∧G w2 u1) [(1,True,_),(14,True,_),(15,True,_)] (fun (i:Nat)=>[(16,True,.int .i64 i)]) (fun (i:Nat)=>t.kids.length-i) (0) ⟨⟨Aha _,fun j _ hj=>absurd hj (Aua j)⟩,G.refl _⟩ (Za J (Za J (Za J (Za J (Zr _))))) ?_;rintro i u1 ⟨hI1,gl1⟩;have g:=g.trans gl1;replace E:=E.grow gl1;refine Zj (Zl (Uua J J (Ze (kq (Zj (Wz J (fun h1=>?_) (fun h1=>?_)))))));replace h1:i<t.kids.length:=by simp only [Wpg] at h1;omega
 obtain ⟨b,o,rfl,hD,xs,hR,hX⟩:=hks O;obtain ⟨p',c',hcell,hkid⟩:=Zab hR hX h1;have hck:=Jk h1;have hkl:=Wn t.kids[i];refine Yw (kq (Zj (Yx (Zj (Zl (Xeb Zc J J O (Wm Zf J J (hcell.grow g) (AN fun _ _ ga _ g E=>?_))))))));have l7_gl1:=ga.ge gl1;have gl1:=gl1.trans (ga.g);refine AS fun wS1 ga _ g E=>?_;first|replace gl1:=Yu gl1 ga O|clear gl1|skip
 refine IF (fun h2=>?_) fun h2=>?_;replace h2:(!decide (t.kids[i].kind=2) || !decide (t.kids[i].text=name))=true:=h2;refine AU ?_;refine SK [16,1,14,15] ?_;refine Ze (fun a ha=>?_)
 exact ⟨i+1,ha,⟨⟨h1,fun j hj1 hj=>by
  by_cases e:j=i;subst e;unfold isStr;rw [h2];rfl;exact hI1.2 j hj1 O⟩,gl1⟩,O⟩
 replace h2:(!decide (t.kids[i].kind=2) || !decide (t.kids[i].text=name))=false:=h2;have hf:=Vmf h1 hI1.2 (by unfold isStr;rw [h2];rfl)
 have hN:Ut t name=match mapO Qj t.kids[i].kids with
  | none=>([],false)
  | some l=>(l,true):=by unfold Ut;rw [hf]
 obtain ⟨p2,c2,hpe,hcap2,hks2⟩:=hkid;injection hpe with hpe _ hce;subst hpe hce;have hb2:=E.g1.lt;have hb7:=E.g0.lt;refine AU ?_;refine Vv (fun (x:Nat×Option Addr×Nat×List Fld) u2=>match x with|⟨k,a,ca,l⟩=>(k≤t.kids[i].kids.length∧mapO Qj (t.kids[i].kids.take k)=some l∧u2.ownsRow wS1.heap.size 134 3 (.slice a l.length ca) l.length (l.flatMap fldCells))∧G wS1 u2) [(1,True,_),(14,True,_),(15,True,_),(16,True,_),(30,True,_),(31,True,_)] (fun (x:Nat×Option Addr×Nat×List Fld)=>match x with|⟨k,a,ca,l⟩=>[(8,True,.slice a l.length ca),(32,True,.int .i64 k)]) (fun (x:Nat×Option Addr×Nat×List Fld)=>match x with|⟨k,a,ca,l⟩=>t.kids[i].kids.length-k) ((0,none,0,[])) ⟨⟨Aha _,rfl,Je _ _ _ _⟩,G.refl _⟩ (Za J (Za J (Za J (Za J (Za J (Za J (Za J (Za J (Zr _))))))))) ?_;rintro ⟨k,a,ca,l⟩ u2 ⟨hI2,gl2⟩;have g:=g.trans gl2;have gl1:=gl1.trans gl2;replace E:=E.grow gl2;obtain ⟨hk,hm,hO⟩:=hI2;have hll:=Vec Qj _ _ hm;rw [Bba] at hll;refine Zj (Zl (Uua J J (Ze (kq (Zj (Wz J (fun h3=>?_) (fun h3=>?_)))))));replace h3:k<t.kids[i].kids.length:=by simp only [Wpg] at h3;omega
 obtain ⟨b2,o2,rfl,hD2,xs2,hR2,hX2⟩:=hks2 O;obtain ⟨p3,c3,hcell3,hkid3⟩:=Zab hR2 hX2 h3;have hck3:=Jk h3;refine Yw (kq (Zj (Yx (Zj (Zl (Xeb Zc J J O (Wm Zf J J (hcell3.grow g) (?_))))))));have hlt10:=fun k hk=>(hO.lt k hk).2;refine AN fun b10 _ N10 _ g E=>?_;have l10_gl1:=N10.ge gl1;have l10_gl2:=N10.ge gl2;have gl1:=gl1.trans (N10.g);have gl2:=gl2.trans (N10.g);have hO:=Xw hO (N10.g);have ne10:(Ia a l.length ca).ownBlock≠some b10:=fun h=>by have:=hlt10 _ h;have:=N10.at_;omega
 refine AS fun _ ga _ g E=>?_;first|replace gl1:=Yu gl1 ga O|clear gl1|skip
 first|replace gl2:=Yu gl2 ga O|clear gl2|skip
 have hO:=Ym hO ga (.inr ne10);refine IF (fun h4=>?_) fun h4=>?_;replace h4:(!decide (t.kids[i].kids[k].kind=3) || !decide ((t.kids[i].kids[k].kids.length:Int)=1))=true:=h4;have hbad:=Vdc Qj _ _ (Ara h3) (by unfold Qj;rw [h4];rfl);refine Zj (Zl (Yr J (Yr J (Ze (kq (Xo (Zfd (ts:=[4,5]) (vs:=[_,_]) J J J ?_)))))));rw [hN,hbad];exact ⟨⟨_,rfl,Vac _⟩,g⟩;replace h4:(!decide (t.kids[i].kids[k].kind=3) || !decide ((t.kids[i].kids[k].kids.length:Int)=1))=false:=h4
 have h1k:t.kids[i].kids[k].kids.length=1:=by
  simp only [Ata,Bool.not_eq_false',Wpg] at h4;omega
 obtain ⟨h0k,ek⟩:=Vpf h1k;obtain ⟨p4,c4,hpe4,_,hks4⟩:=hkid3;injection hpe4 with hpe4 _ hce4;subst hpe4 hce4;obtain ⟨b4,o4,rfl,hD4,xs4,hR4,hX4⟩:=hks4 O;obtain ⟨p5,c5,hcell5,_⟩:=Zab hR4 hX4 h0k;have hck5:=Wn t.kids[i].kids[k].kids[0];have hck6:=Jk h0k;refine Yw (kq (Zj (Zl (Xg Zh J (Xl Zg J (E.g0.at_ J) (Zz J (fun _=>Xta Zc (Zd J) Xa (fun _=>by show (0:Int)≤0∧(0:Int)<((t.kids[i].kids[k].kids.length:Nat):Int);omega)) (Wm Zf J J (hcell5.grow g) (Wy J (Zu Yzc Xy (aqc J aq0) J) (Jve _ _ _ _ (hL.grow g) (by have:=g.size;omega) (hTx.grow g) O) (fun w50 g50=>?_)))))))));have g:=g.trans g50;have gl1:=gl1.trans (g50);have gl2:=gl2.trans (g50);replace E:=E.grow g50;have hO:=Xw hO (g50);refine AU ?_;have hlt11:=fun k hk=>(hO.lt k hk).2;refine AN fun b11 _ N11 _ g E=>?_;have l11_gl1:=N11.ge gl1;have l11_gl2:=N11.ge gl2;have gl1:=gl1.trans (N11.g);have gl2:=gl2.trans (N11.g);have hO:=Xw hO (N11.g);have ne11:(Ia a l.length ca).ownBlock≠some b11:=fun h=>by have:=hlt11 _ h;have:=N11.at_;omega
 refine AS fun _ ga _ g E=>?_;first|replace gl1:=Yu gl1 ga O|clear gl1|skip
 first|replace gl2:=Yu gl2 ga O|clear gl2|skip
 have hO:=Ym hO ga (.inr ne11);refine IF (fun h5=>?_) fun h5=>?_;replace h5:(!(ofF t.kids[i].kids[k].kids[0]).2)=true:=h5;have hbad:=Vdc Qj _ _ (Ara h3) (by unfold Qj;rw [h4,ek];simp only [Bool.not_eq_true'] at h5;rw [h5];rfl);refine Zj (Zl (Yr J (Yr J (Ze (kq (Xo (Zfd (ts:=[4,5]) (vs:=[_,_]) J J J ?_)))))));rw [hN,hbad];exact ⟨⟨_,rfl,Vac _⟩,g⟩;replace h5:(!(ofF t.kids[i].kids[k].kids[0]).2)=false:=h5;have hgood:Qj t.kids[i].kids[k]=some ⟨t.kids[i].kids[k].text,(ofF t.kids[i].kids[k].kids[0]).1⟩:=by unfold Qj;rw [h4,ek];simp only [Bool.not_eq_false'] at h5;rw [h5];rfl
 refine Yw (kq (Zl (Zv J (Xg Xe J (Xl Yy J (E.g1.at_ J) (Wm Zm J J E.g0.row (Vfb Uha Jcb (pqc J (pqc J pq0)) J J (CN fun _ _ ga _ g E=>?_))))))));have l60_gl1:=ga.ge gl1;have l60_gl2:=ga.ge gl2;have gl2:=gl2.trans (ga.g);have hO:=Xw hO (ga.g);refine Um J Yjb Uha J Od (Zd J) hO (Zd J) J E.g0.row J (by simp only [maxLen];omega) O (by have:=gl2.size;omega) ?_;intro a' c' w61 hO' hg61 hat;have hOg:=fun k hk=>(hO.lt k hk).1;have g:=Jf g hg61 (fun k hk=>by have:=hOg k hk;omega);replace gl2:=Jf gl2 hg61 hOg;replace E:=E.sel [false,false,false,true,true];replace E:=E.keep hg61 (Aya.2 ⟨((fun he=>by have:=hOg _ he.symm;omega)),Aya.2 ⟨((fun he=>by have:=hOg _ he.symm;omega)),Bva _⟩⟩);have hO2:=Jxe ⟨t.kids[i].kids[k].text,(ofF t.kids[i].kids[k].kids[0]).1⟩ hO';refine AU ?_;refine SK [8,32,1,14,15,16,30,31] ?_;refine Ze (fun a ha=>?_);refine ⟨(k+1,a',c',l++[⟨t.kids[i].kids[k].text,(ofF t.kids[i].kids[k].kids[0]).1⟩]),?_,⟨⟨h3,Jwe h3 hm hgood,hO2⟩,gl2⟩,by show t.kids[i].kids.length-(k+1)<t.kids[i].kids.length-k;omega⟩;simpa using ha;replace h3:k=t.kids[i].kids.length:=by simp only [Wqg] at h3;omega
 subst h3;rw [Aza] at hm;refine RTN ?_;rw [hN,hm];exact ⟨⟨_,rfl,Vof hO⟩,g⟩;replace h1:i=t.kids.length:=by simp only [Wqg] at h1;omega
 subst h1;refine RTN ?_;have hN:Ut t name=([],false):=by unfold Ut;rw [Vnf fun j hj=>hI1.2 j hj O]
 rw [hN];exact ⟨⟨_,rfl,Vac _⟩,g⟩
def opAr:List (List UInt8):=[[43],[45],[42],[47],[37]]
def opLt:List (List UInt8):=[[60],[60,61],[62],[62,61]]
def opEq:List (List UInt8):=[[61,61],[33,61]]
def opLo:List (List UInt8):=[[38,38],[124,124]]
def binT(op:List UInt8)(a b:Ty):Ty×Bool :=
 bif anyS opAr op then bif tyEqB a tInt&&tyEqB b tInt then (tInt,true) else (ty0,false)
 else bif anyS opLt op then bif tyEqB a tInt&&tyEqB b tInt then (tBool,true) else (ty0,false)
 else bif anyS opEq op then bif compB a b then (tBool,true) else (ty0,false)
 else bif anyS opLo op then bif tyEqB a tBool&&tyEqB b tBool then (tBool,true) else (ty0,false)
 else (ty0,false)
theorem Vfc(a b y:Ty)(p q:Nat)(w:Aa)(hp:Blk w p 24 (tyCells a))(hq:Blk w q 24 (tyCells b)):Ret PP 159 #[tyV y,.pointer (some ⟨p,0,none⟩),.pointer (some ⟨q,0,none⟩)] w fun v w'=>v = .bool (tyEqB a y&&tyEqB b y)∧G w w':=by
 have g:=G.refl w;refine WK 13 [0,1,2] Tryz.func159 ?_;refine Zj (Zl (BM fun _ _ _ _ g E=>?_));refine Yr J (Ze (kq (Zj (Zl (Wm Zm J J (by first|exact (hp.grow g).row|exact (hq.grow g).row|exact E.g0.at_ J|exact E.g0.row) (Wm Zm J J E.g0.row (Zz J (fun _=>Qx Wo (Zd J) (Zd J) J) (Zv J (Yg J J J (Zo Zm (Zd J) J (fun _=>by first|exact (hp.grow g).row|exact (hq.grow g).row|exact E.g0.at_ J|exact E.g0.row)) (Yg J J J (Zo Zm (Zd J) J (fun _=>E.g0.row)) (Zk J J J (fun _=>Qx Wo (Zp J id) (Zp J id) J) (Zz J (fun _=>Yn (Zd J) (Zp J id)) (Yr J (Ze (kq (Xo (Wj J J ?_)))))))))))))))));exact ⟨rfl,g⟩
theorem Vqf(op:List UInt8)(a b:Ty)(w:Aa)(hL:Laid w)(hb3:10≤w.heap.size):Ret PP 140 #[Str op,tyV a,tyV b] w fun v w'=>v = .tuple #[tyV (binT op a b).1,.bool (binT op a b).2]∧G w w':=by
 have g:=G.refl w;refine WK 49 [0,1,2] Tryz.func140 ?_;refine Zj (Zl (BM fun _ _ _ _ g E=>?_));refine BN fun _ _ _ _ g E=>?_;refine AN fun _ _ _ _ g E=>?_;refine Yr J (Ze (kq (Zj (Zl (Vfb Xk Vm (pqc J pq0) J J (Vfb Xk Vm (pqc J pq0) J J (AN fun _ _ _ _ g E=>?_)))))));refine AN fun _ _ _ _ g E=>?_;refine AS fun _ _ _ g E=>?_;refine AS fun _ _ _ g E=>?_;refine Ze (kq (Zj (Zl (Zz J (fun _=>Qmb (aq0) (aqc J (aqc J aq0))) (Yr J (Ze (kq (Zj (Zj (Zl (Zv J (Ze (kq (Yx (Zj (Zj (Zl (Wgd J J (?_)))))))))))))))))));refine Yr J (Ze (kq (?_)));refine' Wed [(4,_,_),(5,_,_),(6,_,_),(7,_,_),(8,_,_),(9,_,_),(10,_,_),(14,_,_)] (Za J (Za J (Za J (Za J (Za J (Za J (Za J (Za J (Za J (Zr _)))))))))) J (fun hb1=>?y1) (kq ?n1)
 case y1 =>
  refine AU ?_;refine' OR [4,5,6,7,8,9,10,14] (fun hb2=>?y2) knr
  case y2 =>
   refine AU ?_;refine' OR [4,5,6,7,8,9,10,14] (fun hb3=>?y3) knr
   case y3 =>
    refine AU ?_;refine' OR [4,5,6,7,8,9,10,14] (fun hb4=>?y4) knr
    case y4 =>
     refine AU ?_;refine SK [15,4,5,6,7,8,9,10,14] ?_;exact Ze knr
 case n1 =>
  refine IF (fun h5=>?_) fun h5=>?_;(try simp only [bsimp] at h5);refine AU ?_;refine Wy J (Zu Xfa (Zd J) (aqc J aq0) J) (Vfc a b tInt _ _ _ E.g4 E.g3) (fun w23 g23=>?_);have g:=g.trans g23;replace E:=E.grow g23;refine IF (fun h6=>?_) fun h6=>?_;(try simp only [bsimp] at h6);refine AS fun _ _ _ g E=>?_;refine RTN ?_;refine ⟨?_,g⟩;unfold binT;simp only [anyS,opAr,opLt,opEq,opLo,h5,h6,Wug,Wtg];rfl;refine AS fun _ _ _ g E=>?_;refine RTN ?_;refine ⟨?_,g⟩;unfold binT;simp only [anyS,opAr,opLt,opEq,opLo,h5,h6,Wug,Wtg];rfl;refine AU ?_;refine' OR [4,5,6,7,8,9,10,14] (fun hb7=>?y7) (kq ?n7)
  case y7 =>
   refine AU ?_;refine' OR [4,5,6,7,8,9,10,14] (fun hb8=>?y8) knr
   case y8 =>
    refine AU ?_;refine' OR [4,5,6,7,8,9,10,14] (fun hb9=>?y9) knr
    case y9 =>
     refine AU ?_;refine SK [25,4,5,6,7,8,9,10,14] ?_;exact Ze knr
  case n7 =>
   refine IF (fun h10=>?_) fun h10=>?_;(try simp only [bsimp] at h10);refine AU ?_;refine Wy J (Zu Xfa (Zd J) (aqc J aq0) J) (Vfc a b tInt _ _ _ E.g4 E.g3) (fun w32 g32=>?_);have g:=g.trans g32;replace E:=E.grow g32;refine IF (fun h11=>?_) fun h11=>?_;(try simp only [bsimp] at h11);refine AS fun _ _ _ g E=>?_;refine RTN ?_;refine ⟨?_,g⟩;unfold binT;simp only [anyS,opAr,opLt,opEq,opLo,h5,h10,h11,Wug,Wtg];rfl;refine AS fun _ _ _ g E=>?_;refine RTN ?_;refine ⟨?_,g⟩;unfold binT;simp only [anyS,opAr,opLt,opEq,opLo,h5,h10,h11,Wug,Wtg];rfl;refine AU ?_;refine' OR [4,5,6,7,9,10,14] (fun hb12=>?y12) (kq ?n12)
   case y12 =>
    refine AU ?_;refine SK [34,4,5,6,7,9,10,14] ?_;exact Ze knr
   case n12 =>
    refine IF (fun h13=>?_) fun h13=>?_;(try simp only [bsimp] at h13);refine AU ?_;refine CP (Jre _ _ _ (hL.grow g) (by have:=g.size;omega)) (fun w39 g39=>?_);have g:=g.trans g39;replace E:=E.grow g39;refine IF (fun h14=>?_) fun h14=>?_;(try simp only [bsimp] at h14);refine AS fun _ _ _ g E=>?_;refine RTN ?_;refine ⟨?_,g⟩;unfold binT;simp only [anyS,opAr,opLt,opEq,opLo,h5,h10,h13,h14,Wug,Wtg];rfl;refine AS fun _ _ _ g E=>?_;refine RTN ?_;refine ⟨?_,g⟩;unfold binT;simp only [anyS,opAr,opLt,opEq,opLo,h5,h10,h13,h14,Wug,Wtg];rfl;refine AU ?_;refine' OR [6,7,9,10] (fun hb15=>?y15) (kq ?n15)
    case y15 =>
     refine AU ?_;refine SK [41,6,7,9,10] ?_;exact Ze knr
    case n15 =>
     refine IF (fun h16=>?_) fun h16=>?_;(try simp only [bsimp] at h16);refine AU ?_;refine Wy J (Zu Xfa (Zd J) (aqc J aq0) J) (Vfc a b tBool _ _ _ E.g4 E.g3) (fun w46 g46=>?_);have g:=g.trans g46;replace E:=E.grow g46;refine IF (fun h17=>?_) fun h17=>?_;(try simp only [bsimp] at h17);refine AS fun _ _ _ g E=>?_;refine RTN ?_;refine ⟨?_,g⟩;unfold binT;simp only [anyS,opAr,opLt,opEq,opLo,h5,h10,h13,h16,h17,Wug,Wtg];rfl;refine AS fun _ _ _ g E=>?_;refine RTN ?_;refine ⟨?_,g⟩;unfold binT;simp only [anyS,opAr,opLt,opEq,opLo,h5,h10,h13,h16,h17,Wug,Wtg];rfl;refine AS fun _ _ _ g E=>?_;refine RTN ?_;refine ⟨?_,g⟩;unfold binT;simp only [anyS,opAr,opLt,opEq,opLo,h5,h10,h13,h16,Wug,Wtg];rfl
theorem Zwa(y:Ty):(tyCells y).length=2:=rfl
def Qja(s:List UInt8):Bool:=decide (s=[76,111,99,107]) || decide (s=[85,110,108,111,99,107])
def mthF(y:Ty)(s:List UInt8):List Ty×Ty×Bool :=
 bif !tyValidB y then ([],ty0,false)
 else bif decide (y.kind=8) then ([],ty0,Qja s)
 else bif decide (y.kind=9) then ([],ty0,(Qja s || decide (s=[82,76,111,99,107])) || decide (s=[82,85,110,108,111,99,107]))
 else bif decide (y.kind=10) then (bif decide (s=[65,100,100]) then ([tInt],ty0,true) else ([],ty0,decide (s=[68,111,110,101]) || decide (s=[87,97,105,116])))
 else bif decide (y.kind=11) then (bif decide (s=[68,111]) then ([tFunc],ty0,true) else ([],ty0,false))
 else bif decide (y.kind=12) then (bif decide (s=[76,111,97,100]) then ([],tInt,true) else bif decide (s=[83,116,111,114,101]) then ([tInt],ty0,true) else bif decide (s=[65,100,100]) then ([tInt],tInt,true) else bif decide (s=[67,111,109,112,97,114,101,65,110,100,83,119,97,112]) then ([tInt,tInt],tBool,true) else ([],ty0,false))
 else ([],ty0,false)
def FnV(P:Fa)(q:Int→Bool)(v:Ga)(w:Aa):Prop:=∃ f fs cs,v = .func (.func f) fs cs∧goFn P f=true∧∀ (k:Int) (w':Aa),G w w'→Ret P f (fs ++ #[.int .i64 k]++cs) w' fun r w''=>r = .bool (q k)∧G w' w''
theorem FnV.grow{P:Fa}{q:Int→Bool}{v:Ga}{w w':Aa}(h:FnV P q v w)(g:G w w'):FnV P q v w':=by
 obtain ⟨f,fs,cs,rfl,h1,h2⟩:=h;exact ⟨f,fs,cs,rfl,h1,fun k w'' g'=>h2 k w'' (g.trans g')⟩
theorem Xma{P:Fa}{q:Int→Bool}{f:Nat}(hgo:goFn P f=true)(h:∀ (k:Int) (w:Aa),Ret P f #[.int .i64 k] w fun r w'=>r = .bool (q k)∧G w w')(w:Aa):FnV P q (.func (.func f) #[] #[]) w :=
 ⟨f,#[],#[],rfl,hgo,fun k w' _=>by simpa using h k w'⟩
section
variable {P:Fa} {Z:List Da→Act→Aa→Prop} {ops:List Oper} {cl:List Nat} {lv:List Bool} {W0:Aa} {n:Nat} {K:Act→Aa→Prop} {k:Nat} {rest:List Oper} {σ:List Ent} {w:Aa} {d:Nat} {ty:Ba} {pos:String} {after:Array Edge}
theorem Vrf{g t:Nat}{want b:Bool}{c0:Prop}{op:Op}{v:Ga}{w':Aa}(hb:(!Aaa (clOf cl k) 0 && !Aaa (clOf cl k) 3&&Aia d n)=true)
 (hgd:((ops.toArray[g]?).bind (·.dst))=some t) (hlk:look σ t=some (c0,.bool b)) (hr:RunV P n σ (c0∧b=want) w op ty v w') (hg:G w w')
 (h:(c0∧b=want)→SR P Z ops cl lv W0 n K (k+1) rest ((d,c0∧b=want,v) :: σ) w') (h':¬ (c0∧b=want)→SR P Z ops cl lv W0 n K (k+1) rest ((d,c0∧b=want,v) :: σ) w) :
 SR P Z ops cl lv W0 n K k (⟨some d,op,ty,pos,after,some (g,want)⟩::rest) σ w:=.mk fun hl a ha=>by
 obtain ⟨h0,h1⟩:=Jd hl;simp only [Aka,Bool.not_eq_true'] at hb;rw [Ama,List.range'_succ];have hw:=Qta (op:=op) (ty:=ty) (pos:=pos) (after:=after) (want:=want) (d:=some d) hgd hlk ha;refine ⟨_,h0,?_⟩;rw [if_neg (fun he=>by rcases he with he|he <;> rw [he] at hb <;> simp at hb)]
 by_cases hh:c0∧b=want;rw [if_pos (hw.2 hh)];exact .inl ⟨v,w',hr _ _ _ _ a ha hh,fun _=>hg,h hh h1 _ (ha.put hb.2 (fun _=>rfl) (fun hn=>absurd hh hn))⟩;rw [if_neg (fun hq=>hh (hw.1 hq))];exact h' hh h1 _ (ha.put hb.2 (fun hq=>absurd hq hh) (fun _=>rfl))
theorem Vgc{g t0:Nat}{want bb:Bool}{c0:Prop}{t e z by_ m:Nat}{ps:Array (Nat×Ea)}{vs:List (Nat×Ga)}{zv:Ga}(l:List Ga)(hb:(!Aaa (clOf cl k) 0 && !Aaa (clOf cl k) 3&&Aia d n)=true)(hgd:((ops.toArray[g]?).bind (·.dst))=some t0)(hlk:look σ t0=some (c0,.bool bb))
 (ht:tyElem P t=some (e,z,by_)) (hz:zeroOf P e=some zv)
 (hx:Xda n σ (c0∧bb=want) ps vs) (hm:(Nat.ble (m*z) 16777216 && !Aaa (m*z) 0&&Aaa vs.length m)=true) (hf:Yyc z 0 vs=some l)
 (h:∀ b w1,G w w1→(c0∧bb=want→Blk w1 b e l)→SR P Z ops cl lv W0 n K (k+1) rest ((d,c0∧bb=want,.slice (some ⟨b,0,none⟩) m m) :: σ) w1) :
 SR P Z ops cl lv W0 n K k (⟨some d,.buildSlice t m ps,ty,pos,after,some (g,want)⟩::rest) σ w:=by
 obtain ⟨hu,i,hi,hsz,_⟩:=Ue ht;obtain ⟨i',hi',hz'⟩:=Ula hz;obtain rfl:i=i':=Option.some.inj (hi.symm.trans hi');simp only [Aka,Bool.not_eq_true'] at hm;have hm1:¬ (m*z>2 ^ 24):=by have:=Nat.le_of_ble_eq_true hm.1.1;omega
 have hm2:¬ (m*z=0):=by intro he;rw [he] at hm;simp at hm
 have hvl:=Boa hm.2
 have hfill:Instr.fill (fun i=>some (i*z,z)) ((Array.range (m*z)).map (zv.cells[· % zv.cells.size]!)) vs=some l.toArray:=by
  have h1:=Unb z vs 0 [] ((Array.range (m*z)).map (zv.cells[· % zv.cells.size]!)).toList l hf Os (by simp [hvl]) Os;have:=Wpb _ _ _ _ h1;rwa [Array.toArray_toList] at this
 refine Vrf hb hgd hlk (w':=w.alloc (.cells l.toArray e)) (v:=.slice (some ⟨w.heap.size,0,none⟩) m m) (fun d pos after g a ha hc=>?_) (Zaa w e l).g (fun hc=>h _ _ (Zaa w e l).g (fun _=>(Zaa w e l).blk)) (fun hc=>h _ _ (G.refl w) (fun hq=>absurd hq hc));have hx':=hx a ha hc;simp only [execOp,Instr.buildSlice,Sem.run_bind,run_underlying hu,Ha,sizeOf,typeInfo,run_program,hi,Sem.run_pure,hsz,if_neg hm1,if_neg hm2,zeroValue,hz'];rw [hx',hfill];simp [newRow]
end
section
variable {P:Fa} {n:Nat} {σ:List Ent} {c:Prop} {wb:Aa} {ty:Ba} {v:Ga}
theorem Wxd{t e z by_:Nat}{x y:Ea}{o:Option Addr}{m q:Nat}{k:IntKind}(ht:tyElem P t=some (e,z,by_))(h:Ev n σ c x (.slice o m q))(h':Ev n σ c y (.int k 0)) :
 Rd P n σ c wb (.slice t x (some y) none none) ty (.slice o m q):=.mk fun d pos after gd a ha hc w1 _=>by
 obtain ⟨hu,inf,hin,hz,_⟩:=Ue ht;have e2:o.map (fun b=>Addr.add b 0)=o:=by cases o <;> simp [Addr.add]
 simp only [execOp,h a ha hc,h' a ha hc,Instr.sliceAt,Option.map_some,Option.map_none,Sem.run_bind,run_underlying hu,Ha];simp [Instr.slice,run_underlying hu,Instr.sliceBounds,Instr.sliceBound,asIntOf,Yzb hin,e2]
end
def typK(k:Int):Bool:=anyK [7,8] k
def expK(k:Int):Bool:=anyK [28,29,30,31,32,33,35,36,37,27,34,24,25,26,38] k
def stK(k:Int):Bool:=anyK [6,10,11,12,13,14,15,16,17,21,18,19,20,22] k
def memK(l:List Int)(k:Int):Bool:=decide (k∈l)
theorem Qzd(s:List UInt8)(w:Aa)(hL:Laid w)(hb3:10≤w.heap.size):Ret PP 100 #[Str s] w fun v w'=>v = .bool (nameB s)∧G w w':=by
 have g:=G.refl w;refine WK 34 [0] Tryz.func100 ?_;refine AU ?_;refine CL (Yje s _ (hL.grow g) (by have:=g.size;omega)) ?_;rintro v8 w8 ⟨l,rfl,hT,g8⟩;obtain ⟨a,c,rfl,hr⟩:=Wzc hT;refine ⟨fun _=>g8,?_⟩;have g:=g.trans g8;refine AU ?_;refine Zk J J J (fun _=>Yv Vc (Zp J id) Xa (fun hc=>by have:=Wrg (Aba.1 hc.2).2;omega) (fun hc=>(hr (by have:=Wrg (Aba.1 hc.2).2;omega)).1)) ?_;refine AU ?_;refine Yg J J J (Zq Yf (Zp J id) (fun hc=>(hr (by have:=Wrg (Aba.1 hc.2).2;omega)).2 0 _ J)) ?_;refine AU ?_;refine Zk J J J (fun _=>Yv Vc (Zp J id) Xa (fun hc=>by have:=Wrg (Aba.1 (Aba.1 hc.2).1).2;omega) (fun hc=>(hr (by have:=Wrg (Aba.1 (Aba.1 hc.2).1).2;omega)).1)) ?_;refine AU ?_;refine Yg J J J (Zq Yy (Zp J id) (fun hc=>(hr (by have:=Wrg (Aba.1 (Aba.1 hc.2).1).2;omega)).2 1 _ J)) ?_;refine RTN ?_;refine ⟨Wog ?_,g⟩;rw [← Wsd];rfl
theorem Xub(k:Int)(w:Aa):Ret PP 104 #[.int .i64 k] w fun v w'=>v = .bool (typK k)∧G w w':=by
 have g:=G.refl w;refine WK 9 [0] Tryz.func104 ?_;refine RTN ?_;exact ⟨rfl,g⟩
theorem Qg(k:Int)(w:Aa):Ret PP 106 #[.int .i64 k] w fun v w'=>v = .bool (expK k)∧G w w':=by
 have g:=G.refl w;refine WK 20 [0] Tryz.func106 ?_;refine AU ?_;refine' OR [2] (fun hb1=>?y1) (kq ?n1)
 case y1 =>
  refine AU ?_;refine' OR [2] (fun hb2=>?y2) knr
  case y2 =>
   refine AU ?_;refine' OR [2] (fun hb3=>?y3) knr
   case y3 =>
    refine AU ?_;refine' OR [2] (fun hb4=>?y4) knr
    case y4 =>
     refine AU ?_;refine' OR [2] (fun hb5=>?y5) knr
     case y5 =>
      refine AU ?_;refine' OR [2] (fun hb6=>?y6) knr
      case y6 =>
       refine AU ?_;refine' OR [2] (fun hb7=>?y7) knr
       case y7 =>
        refine AU ?_;refine' OR [2] (fun hb8=>?y8) knr
        case y8 =>
         refine AU ?_;refine' OR [2] (fun hb9=>?y9) knr
         case y9 =>
          refine AU ?_;refine' OR [2] (fun hb10=>?y10) knr
          case y10 =>
           refine AU ?_;refine' OR [2] (fun hb11=>?y11) knr
           case y11 =>
            refine AU ?_;refine' OR [2] (fun hb12=>?y12) knr
            case y12 =>
             refine AU ?_;refine' OR [2] (fun hb13=>?y13) knr
             case y13 =>
              refine AU ?_;refine' OR [2] (fun hb14=>?y14) knr
              case y14 =>
               refine AU ?_;refine SK [4,2] ?_;exact Ze knr
 case n1 =>
  refine IF (fun h15=>?_) fun h15=>?_;(try simp only [bsimp] at h15);refine RTN ?_;refine ⟨Wog ?_,g⟩;simp only [expK,anyK];exact (h15).symm;refine RTN ?_;refine ⟨Wog ?_,g⟩;simp only [expK,anyK];exact (h15).symm
theorem Ygd(k:Int)(w:Aa):Ret PP 107 #[.int .i64 k] w fun v w'=>v = .bool (stK k)∧G w w':=by
 have g:=G.refl w;refine WK 19 [0] Tryz.func107 ?_;refine AU ?_;refine' OR [2] (fun hb1=>?y1) (kq ?n1)
 case y1 =>
  refine AU ?_;refine' OR [2] (fun hb2=>?y2) knr
  case y2 =>
   refine AU ?_;refine' OR [2] (fun hb3=>?y3) knr
   case y3 =>
    refine AU ?_;refine' OR [2] (fun hb4=>?y4) knr
    case y4 =>
     refine AU ?_;refine' OR [2] (fun hb5=>?y5) knr
     case y5 =>
      refine AU ?_;refine' OR [2] (fun hb6=>?y6) knr
      case y6 =>
       refine AU ?_;refine' OR [2] (fun hb7=>?y7) knr
       case y7 =>
        refine AU ?_;refine' OR [2] (fun hb8=>?y8) knr
        case y8 =>
         refine AU ?_;refine' OR [2] (fun hb9=>?y9) knr
         case y9 =>
          refine AU ?_;refine' OR [2] (fun hb10=>?y10) knr
          case y10 =>
           refine AU ?_;refine' OR [2] (fun hb11=>?y11) knr
           case y11 =>
            refine AU ?_;refine' OR [2] (fun hb12=>?y12) knr
            case y12 =>
             refine AU ?_;refine' OR [2] (fun hb13=>?y13) knr
             case y13 =>
              refine AU ?_;refine SK [4,2] ?_;exact Ze knr
 case n1 =>
  refine IF (fun h14=>?_) fun h14=>?_;(try simp only [bsimp] at h14);refine RTN ?_;refine ⟨Wog ?_,g⟩;simp only [stK,anyK];exact (h14).symm;refine RTN ?_;refine ⟨Wog ?_,g⟩;simp only [stK,anyK];exact (h14).symm
theorem Vue(l:List Int)(b:Nat)(p:Option Addr)(c:Nat)(k:Int)(w:Aa)(hB:Blk w b 56 [.slice p l.length c])(hp:0<l.length→∃ b o,p=some ⟨b,o,none⟩∧RowAt w b o (l.map (Value.int .i64)))(hl:l.length≤1000) :
 Ret PP 133 #[.int .i64 k,.pointer (some ⟨b,0,none⟩)] w fun v w'=>v = .bool (memK l k)∧G w w':=by
 have g:=G.refl w;refine WK 16 [0,1] Tryz.func133 ?_;refine AU ?_;refine Vv (fun (i:Nat) u1=>(i≤l.length∧∀ j,(h:j<l.length)→j<i→l[j]≠k)∧G w u1) [(0,True,_),(6,True,_),(7,True,_)] (fun (i:Nat)=>[(8,True,.int .i64 i)]) (fun (i:Nat)=>l.length-i) (0) ⟨⟨Aha _,fun j _ hj=>absurd hj (Aua j)⟩,G.refl _⟩ (Za J (Za J (Za J (Za J (Zr _))))) ?_;rintro i u1 ⟨hI1,gl1⟩;have g:=g.trans gl1;refine Zj (Zl (Uua J J (Ze (kq (Zj (Wz J (fun h1=>?_) (fun h1=>?_)))))));replace h1:i<l.length:=by simp only [Wpg] at h1;omega
 obtain ⟨b2,o2,rfl,hR⟩:=hp O;have hv:(l.map (Value.int .i64))[i*1]? = some (.int .i64 l[i]):=by simp [h1]
 refine Yw (kq (Zj (Yx (Zj (Zl (Xeb Zca J J O (Xl Yf J ((hR.grow g) _ _ hv) (Yr J (Ze (kq (Zj (Zl (Zv J (Zv J (Zea J J (Ze (kq (Wz J (fun h2=>?_) (fun h2=>?_)))))))))))))))))));simp only [Wpg] at h2;refine RTN ?_;refine ⟨Wog ?_,g⟩;rw [memK,eq_comm,Wpg,← h2];exact Ara h1;simp only [Wqg] at h2;refine AU ?_;refine SK [8,0,6,7] ?_;refine Ze (fun a ha=>?_);refine ⟨i+1,ha,⟨⟨h1,fun j h hj=>?_⟩,gl1⟩,O⟩;by_cases e:j=i;subst e;exact h2;exact hI1.2 j h O;refine RTN ?_;refine ⟨Wog ?_,g⟩;rw [memK,eq_comm,Wqg];intro hm;obtain ⟨j,hj,e⟩:=Asa hm;simp only [Wqg] at h1;exact hI1.2 j hj O e
theorem Zxa(l:List Int)(b o c:Nat)(w:Aa)(hR:RowAt w b o (l.map (Value.int .i64)))(hl:l.length≤1000):Ret PP 101 #[.slice (some ⟨b,o,none⟩) l.length c] w fun v w'=>FnV PP (memK l) v w'∧G w w':=by
 have g:=G.refl w;refine WK 4 [0] Tryz.func101 ?_;refine Zj (Zl (BM fun _ _ _ _ g E=>?_));refine Yr J (Ze (kq (Zj (Zl (Zz J (fun _=>Qmb (aq0) (aqc J aq0)) (Yr J (Ze (kq (Xo (Wj J J ?_))))))))));refine ⟨⟨_,_,_,rfl,Qrb,fun k w' g'=>?_⟩,g⟩;exact Vue l _ _ _ k w' (E.g0.grow g') (fun _=>⟨b,o,rfl,(hR.grow g).grow g'⟩) hl
theorem Jad(q r:Int→Bool)(f h:Ga)(b1 b2:Nat)(k:Int)(w:Aa)(h1:Blk w b1 103 [f])(h2:Blk w b2 103 [h])(hF:FnV PP q f w)(hH:FnV PP r h w) :
 Ret PP 134 #[.int .i64 k,.pointer (some ⟨b1,0,none⟩),.pointer (some ⟨b2,0,none⟩)] w fun v w'=>v = .bool (q k || r k)∧G w w':=by
 have g:=G.refl w;obtain ⟨f0,fs0,cs0,rfl,hgo0,hf0⟩:=hF;obtain ⟨f1,fs1,cs1,rfl,hgo1,hf1⟩:=hH;refine Vo (m:=13) Tryz.func134 J J [(0,True,_),(1,True,_),(2,True,_)] (Za J (Za J (Za J (Zr _)))) ?_;refine Zj (Zl (Yr J (Ze (kq (Zj (Zl (Xl Zka J ((h1.grow g).at_ J) (Zv J (Wy J (Zu hgo0 (Zd J) (aqc J aq0) J) (hf0 k _ g) (fun w7 g7=>?_))))))))));have g:=g.trans g7;refine Zv J (Yg J J J (Zq Zka (Zd J) (fun _=>(h2.grow g).at_ J)) (Zk J J J (fun _=>Zw (Zd J)) (Xu J J J (fun _=>(Zu hgo1 (Zp J id) (Ya (Zp J id) (Yl)) J)) (fun hc=>hf1 k _ g) (fun w11 g11=>?_))));have g:=g.trans g11;refine RTN ?_;exact ⟨rfl,g⟩
theorem Zcb(q:Int→Bool)(l:List Int)(f:Ga)(b o c:Nat)(w:Aa)(hF:FnV PP q f w)(hR:RowAt w b o (l.map (Value.int .i64)))(hl:l.length≤1000):Ret PP 105 #[f,.slice (some ⟨b,o,none⟩) l.length c] w fun v w'=>FnV PP (fun k=>q k || memK l k) v w'∧G w w':=by
 have g:=G.refl w;have hF0:=hF;obtain ⟨f0,fs0,cs0,rfl,hgo0,hf0⟩:=hF;refine WK 9 [0,1] Tryz.func105 ?_;refine BM fun _ _ _ _ g E=>?_;refine Yr J (Ze (kq (Zj (Zl (Zv J (CL (Zxa l _ _ _ _ (hR.grow g) hl) ?_))))));rintro v7 w7 ⟨hA,g7⟩;refine ⟨fun _=>g7,?_⟩;have g:=g.trans g7;have hA0:=hA;obtain ⟨f1,fs1,cs1,rfl,hgo1,hf1⟩:=hA;replace E:=E.grow g7;have gm:=G.refl w7;refine AN fun _ _ ga _ g E=>?_;have l5_gm:=ga.ge gm;have gm:=gm.trans (ga.g);refine AS fun _ ga _ g E=>?_;first|replace gm:=Yu gm ga O|clear gm|skip
 refine Ze (kq (Zj (Zl (Zz J (fun _=>Qmb (aq0) (aqc J (aqc J aq0))) (Yr J (Ze (kq (Xo (Wj J J ?_)))))))));refine ⟨⟨_,_,_,rfl,Upb,fun k w' g'=>?_⟩,g⟩;exact Jad q (memK l) _ _ _ _ k w' (E.g1.grow g') (E.g0.grow g') ((hF0.grow g).grow g') ((hA0.grow gm).grow g')
def Zb(t:Nd)(i:Nat):Nd:=t.kids.getD i nd0
theorem Yz{t:Nd}{i:Nat}(h:i<t.kids.length):Zb t i=t.kids[i]:=by simp [Zb,Aea,Aca h]
def kidsB(t:Nd)(qs:List (Int→Bool)):Bool:=decide (t.kids.length=qs.length)&&(List.range qs.length).all fun i=>(qs.getD i (fun _=>false)) (Zb t i).kind
def everyB(t:Nd)(q:Int→Bool):Bool:=t.kids.all fun k=>q k.kind
theorem Yba(t:Nd)(p:Option Addr)(c:Nat)(D:Nat→Prop)(qs:List (Int→Bool))(vs:List Ga)(b o cap:Nat)(w:Aa)(hk:Kd w D t.kids (.slice p t.kids.length c))(hl:vs.length=qs.length)(hR:RowAt w b o vs)
 (hF:∀ i (h:i<vs.length),FnV PP (qs.getD i (fun _=>false)) vs[i] w) (hc:t.kids.length≤1000000):Ret PP 103 #[ndV t (.slice p t.kids.length c),.slice (some ⟨b,o,none⟩) qs.length cap] w fun v w'=>v = .bool (kidsB t qs)∧G w w':=by
 have g:=G.refl w;obtain ⟨p',c',hpe,_,hks⟩:=hk;injection hpe with hpe _ hce;subst hpe hce;refine WK 30 [0,1] Tryz.func103 ?_;refine BM fun _ w2 _ _ g E=>?_;refine IF (fun h1=>?_) fun h1=>?_
 have hN:kidsB t qs=false:=by
  have:¬ t.kids.length=qs.length:=by simp at h1;omega
  rw [kidsB,Wmg this];rfl
 refine RTN ?_;rw [hN];exact ⟨rfl,g⟩;have hle:t.kids.length=qs.length:=by simp at h1;omega
 refine Yw (kq (Zj (Zj (Zl (Zv J (Yha Jb J (Zv J (Ze (kq (Yx (Vv (fun (i:Nat) u1=>(i≤qs.length∧∀ j,j<i→(qs.getD j (fun _=>false)) (Zb t j).kind=true)∧G w2 u1) [(2,True,_),(13,True,_),(14,True,_)] (fun (i:Nat)=>[(15,True,.int .i64 i)]) (fun (i:Nat)=>qs.length-i) (0) ⟨⟨Aha _,fun j hj=>absurd hj (Aua j)⟩,G.refl _⟩ (Za J (Za J (Za J (Za J (Zr _))))) ?_)))))))))));rintro i u1 ⟨hI1,gl1⟩;have g:=g.trans gl1;replace E:=E.grow gl1;refine Zj (Zl (Uua J J (Ze (kq (Zj (Wz J (fun h2=>?_) (fun h2=>?_)))))));replace h2:i<qs.length:=by simp only [Wpg] at h2;omega
 obtain ⟨f,fs,cs,hfe,hgo,hf⟩:=hF i O;have hv:=hR i _ (Aca (show i<vs.length by omega));rw [hfe] at hv;obtain ⟨b2,o2,rfl,hD,xs,hR2,hX⟩:=hks O;obtain ⟨p2,c2,hcell,_⟩:=Zab hR2 hX (show i<t.kids.length by omega);rw [← Yz] at hcell;refine Yw (kq (Zj (Yx (Zj (Zl (Zv J (Xeb Jb J J O (Xl Zka J (by have:=Jla g hv;simpa using this) (Yr J (Yr J (Ze (kq (Zj (Zl (Zv J (Xg Zh J (Xl Zg J (E.g0.at_ J) (?_))))))))))))))))));refine Zv J (Xeb Zc J J O (Xg Xi J (Xl Yf J ((hcell.grow g) 0 _ J) (Wy J (Zu hgo (Zd J) (aqc J aq0) J) (hf _ _ g) (fun w27 g27=>?_)))));have g:=g.trans g27;have gl1:=gl1.trans (g27);replace E:=E.grow g27;refine IF (fun h3=>?_) fun h3=>?_;(try simp only [bsimp] at h3);refine RTN ?_;refine ⟨Wog ?_,g⟩;rw [eq_comm,kidsB,Wng hle,Ava,Bfa];exact ⟨i,Baa.2 h2,by simpa using h3⟩;refine AU ?_;refine SK [15,2,13,14] ?_;refine Ze (fun a ha=>?_);refine ⟨i+1,ha,⟨⟨h2,fun j hj=>?_⟩,gl1⟩,O⟩;by_cases e:j=i;subst e;simpa using h3;exact hI1.2 j O;refine RTN ?_;refine ⟨Wog ?_,g⟩;rw [eq_comm,kidsB,Wng hle,Ava,Ana];intro j hj;exact hI1.2 j (by have:=Baa.1 hj;simp only [Wqg] at h2;omega)
theorem Xvb(t:Nd)(p:Option Addr)(c:Nat)(D:Nat→Prop)(q:Int→Bool)(v:Ga)(w:Aa)(hk:Kd w D t.kids (.slice p t.kids.length c))(hF:FnV PP q v w)(hc:t.kids.length≤1000000):Ret PP 102 #[ndV t (.slice p t.kids.length c),.int .i64 0,v] w fun v w'=>v = .bool (everyB t q)∧G w w':=by
 have g:=G.refl w;obtain ⟨p',c',hpe,_,hks⟩:=hk;injection hpe with hpe _ hce;subst hpe hce;obtain ⟨f,fs,cs,rfl,hgo,hf⟩:=hF;refine WK 29 [0,1,2] Tryz.func102 ?_;refine BM fun _ w3 _ _ g E=>?_;refine Yr J (Ze (kq (Zj (Zj (Zl (Xg Zh J (Xl Zg J (E.g0.at_ J) (Yha Zc J (Zv J (Uua J J (Ze (kq (Wz J (fun h1=>?_) (fun h1=>?_))))))))))))))
 ·exfalso;simp only [Wpg] at h1;omega
  done
 refine Yw (kq (Zj (Zj (Zl (Xg Zh J (Xl Zg J (E.g0.at_ J) (Zv J (Zz J (fun _=>Wxd Zc (Zd J) (Zd J)) (Yha Zc J (Zv J (Ze (kq (Yx (Vv (fun (i:Nat) u1=>(i≤t.kids.length∧∀ j,(h:j<t.kids.length)→j<i→q t.kids[j].kind=true)∧G w3 u1) [(2,True,_),(17,True,_),(18,True,_)] (fun (i:Nat)=>[(19,True,.int .i64 i)]) (fun (i:Nat)=>t.kids.length-i) (0) ⟨⟨Aha _,fun j _ hj=>absurd hj (Aua j)⟩,G.refl _⟩ (Za J (Za J (Za J (Za J (Zr _))))) ?_))))))))))))));rintro i u1 ⟨hI1,gl1⟩;have g:=g.trans gl1;replace E:=E.grow gl1;refine Zj (Zl (Uua J J (Ze (kq (Zj (Wz J (fun h2=>?_) (fun h2=>?_)))))))
 ·replace h2:i<t.kids.length:=by simp only [Wpg] at h2;omega
  obtain ⟨b2,o2,rfl,hD,xs,hR2,hX⟩:=hks O;obtain ⟨p2,c2,hcell,_⟩:=Zab hR2 hX h2;refine Yw (kq (Zj (Yx (Zj (Zl (Xeb Zc J J O (Wm Zf J J (hcell.grow g) (AN fun _ _ ga _ g E=>?_))))))));have l8_gl1:=ga.ge gl1;have gl1:=gl1.trans (ga.g);refine AS fun _ ga _ g E=>?_;first|replace gl1:=Yu gl1 ga O|clear gl1|skip
  refine AU ?_;refine Wy J (Zu hgo (Zd J) (aqc J aq0) J) (hf _ _ g) (fun w26 g26=>?_);have g:=g.trans g26;have gl1:=gl1.trans (g26);replace E:=E.grow g26;refine IF (fun h3=>?_) fun h3=>?_
  ·(try simp only [bsimp] at h3)
   refine RTN ?_;refine ⟨Wog ?_,g⟩;rw [eq_comm,everyB,Bfa];exact ⟨_,Ara h2,by simpa using h3⟩
  refine AU ?_;refine SK [19,2,17,18] ?_;refine Ze (fun a ha=>?_);refine ⟨i+1,ha,⟨⟨h2,fun j h hj=>?_⟩,gl1⟩,O⟩;by_cases e:j=i
  · subst e;simpa using h3
  · exact hI1.2 j h O
 refine RTN ?_;refine ⟨Wog ?_,g⟩;rw [eq_comm,everyB,Ana];intro x hx;obtain ⟨j,hj,rfl⟩:=Asa hx;exact hI1.2 j hj (by simp only [Wqg] at h2;omega)
def commB(t:Nd):Bool:=bif anyK [9,16] t.kind then true
 else bif anyK [13,11] t.kind then decide (((t.kids.length:Int)-1)=0)&&decide ((Zb t 0).kind=33)
 else bif decide (t.kind=12) then decide (((t.kids.length:Int)-1)=1)&&decide ((Zb t 1).kind=33) else false
theorem Yq{w:Aa}{D:Nat→Prop}{t:Nd}{p:Option Addr}{c:Nat}(hk:Kd w D t.kids (.slice p t.kids.length c)){i:Nat}(h:i<t.kids.length):p=some ⟨pb p,po p,none⟩∧∃ p' c',RowAt w (pb p) (po p+i*9) (ndCells (Zb t i) (.slice p' (Zb t i).kids.length c'))∧Kd w D (Zb t i).kids (.slice p' (Zb t i).kids.length c'):=by
 obtain ⟨p',c',hpe,_,hks⟩:=hk;injection hpe with hpe _ hce;subst hpe hce;obtain ⟨b2,o2,rfl,hD,xs,hR2,hX⟩:=hks O;refine ⟨rfl,?_⟩;rw [Yz h];exact Zab hR2 hX h
theorem Vsf(t:Nd)(p:Option Addr)(c:Nat)(D:Nat→Prop)(w:Aa)(hk:Kd w D t.kids (.slice p t.kids.length c))(hc:t.kids.length≤1000000):Ret PP 108 #[ndV t (.slice p t.kids.length c)] w fun v w'=>v = .bool (commB t)∧G w w':=by
   have g := G.refl w
   refine WK 38 [0] Tryz.func108 ?_
   refine BM fun _ _ _ _ g E => ?_
   refine AU ?_
   refine' OR [1, 2, 3, 9] (fun hb1 => ?y1) (kq ?n1)
   case y1 =>
    refine AU ?_
    refine SK [10, 1, 2, 3, 9] ?_
    exact Ze knr
   case n1 =>
    refine IF (fun h2 => ?_) fun h2 => ?_
    · replace h2 : (anyK [9, 16] t.kind) = true := h2
      refine RTN ?_
      refine ⟨Wog ?_, g⟩
      unfold commB; simp only [h2, Wug, Wtg] <;> rfl
    replace h2 : (anyK [9, 16] t.kind) = false := h2
    refine AU ?_
    refine' OR [1, 2, 3, 9] (fun hb3 => ?y3) (kq ?n3)
    case y3 =>
     refine AU ?_
     refine SK [13, 1, 2, 3, 9] ?_
     exact Ze knr
    case n3 =>
     refine IF (fun h4 => ?_) fun h4 => ?_
     · replace h4 : (anyK [13, 11] t.kind) = true := h4
       refine Zj (Zl (Zv J (Zea J J (Zv J (Zk J J J (fun _ => Zi Zh (Zd J)) (Yg J J J (Zq Zg (Zp J id) (fun _ => E.g0.at_ J)) (Zk J J J (fun _ => Yv Zc (Zp J id) Xa (fun hc => by have := Wrg hc.2; omega) (fun hc => (Yq hk (i := 0) (by have := Wrg hc.2; omega)).1)) (Zk J J J (fun _ => Zi Xi (Zp J id)) (Yg J J J (Zq Yf (Zp J id) (fun hc => by
 obtain ⟨_,p',c',hcell,_⟩:=Yq hk (i:=0) (by have:=Wrg hc.2;omega)
 exact (hcell.grow g) 0 _ rfl)) (Zk rfl rfl rfl (fun _=>Zoa (Zp rfl id) Xa) (Zz rfl (fun _=>Yn (Zd rfl) (Zp rfl id)) (Yr rfl (Ze (kq (Xo (Wj rfl rfl ?_))))))))))))))))
       refine ⟨Wog ?_,g⟩
       unfold commB;simp only [h2,h4,Wug,Wtg] <;> rfl
     replace h4:(anyK [13,11] t.kind)=false:=h4
     refine IF (fun h5=>?_) fun h5=>?_
     · (try simp only [bsimp] at h5)
       refine Zj (Zl (Zv J (Zea J J (Zv J (Zk J J J (fun _=>Zi Zh (Zd J)) (Yg J J J (Zq Zg (Zp J id) (fun _=>E.g0.at_ J)) (Zk J J J (fun _=>Yv Zc (Zp J id) Xa (fun hc=>by have:=Wrg hc.2;omega) (fun hc=>(Yq hk (i:=1) (by have:=Wrg hc.2;omega)).1)) (Zk J J J (fun _=>Zi Xi (Zp J id)) (Yg J J J (Zq Yf (Zp J id) (fun hc=>by
 obtain ⟨_,p',c',hcell,_⟩:=Yq hk (i:=1) (by have:=Wrg hc.2;omega)
 exact (hcell.grow g) 0 _ rfl)) (Zk rfl rfl rfl (fun _=>Zoa (Zp rfl id) Xa) (Zz rfl (fun _=>Yn (Zd rfl) (Zp rfl id)) (Yr rfl (Ze (kq (Xo (Wj rfl rfl ?_))))))))))))))))
       refine ⟨Wog ?_,g⟩
       unfold commB;simp only [h2,h4,h5,Wug,Wtg] <;> rfl
     refine RTN ?_
     refine ⟨Wog ?_,g⟩
     unfold commB;simp only [h2,h4,h5,Wug,Wtg] <;> rfl
def textB'(t:Nd):Bool:=bif anyK [2,3,4,6,11,28,27,34,8] t.kind then nameB t.text
 else bif decide (t.kind=31) then decide (t.text=[45]) || decide (t.text=[33])
 else bif decide (t.kind=32) then anyS binOps t.text
 else bif decide (t.kind=7) then typeNameB t.text
 else decide (t.text=[])
theorem Jye(t:Nd)(p:Option Addr)(c:Nat)(w:Aa)(hL:Laid w)(hb3:10≤w.heap.size):Ret PP 83 #[ndV t (.slice p t.kids.length c)] w fun v w'=>v = .bool (textB' t)∧G w w':=by
 have g:=G.refl w;refine WK 64 [0] Tryz.func83 ?_;refine BM fun _ _ _ _ g E=>?_;refine AU ?_;refine' OR [1,2,4] (fun hb1=>?y1) (kq ?n1)
 case y1 =>
  refine AU ?_;refine' OR [1,2,4] (fun hb2=>?y2) knr
  case y2 =>
   refine AU ?_;refine' OR [1,2,4] (fun hb3=>?y3) knr
   case y3 =>
    refine AU ?_;refine' OR [1,2,4] (fun hb4=>?y4) knr
    case y4 =>
     refine AU ?_;refine' OR [1,2,4] (fun hb5=>?y5) knr
     case y5 =>
      refine AU ?_;refine' OR [1,2,4] (fun hb6=>?y6) knr
      case y6 =>
       refine AU ?_;refine' OR [1,2,4] (fun hb7=>?y7) knr
       case y7 =>
        refine AU ?_;refine' OR [1,2,4] (fun hb8=>?y8) knr
        case y8 =>
         refine AU ?_;refine SK [5,1,2,4] ?_;exact Ze knr
 case n1 =>
  refine IF (fun h9=>?_) fun h9=>?_;replace h9:(anyK [2,3,4,6,11,28,27,34,8] t.kind)=true:=h9;refine AU ?_;refine CP (Qzd _ _ (hL.grow g) (by have:=g.size;omega)) (fun w17 g17=>?_);have g:=g.trans g17;replace E:=E.grow g17;refine RTN ?_;refine ⟨Wog ?_,g⟩;unfold textB';simp only [binOps,typeNameB,typeNames,anyS,h9,Wug,Wtg] <;> rfl
  replace h9:(anyK [2,3,4,6,11,28,27,34,8] t.kind)=false:=h9;refine IF (fun h10=>?_) fun h10=>?_;(try simp only [bsimp] at h10);refine RTN ?_;refine ⟨Wog ?_,g⟩;unfold textB';simp only [binOps,typeNameB,typeNames,anyS,h9,h10,Wug,Wtg] <;> rfl
  refine IF (fun h11=>?_) fun h11=>?_;(try simp only [bsimp] at h11);refine AU ?_;refine' OR [1,2] (fun hb12=>?y12) (kq ?n12)
  case y12 =>
   refine AU ?_;refine' OR [1,2] (fun hb13=>?y13) knr
   case y13 =>
    refine AU ?_;refine' OR [1,2] (fun hb14=>?y14) knr
    case y14 =>
     refine AU ?_;refine' OR [1,2] (fun hb15=>?y15) knr
     case y15 =>
      refine AU ?_;refine' OR [1,2] (fun hb16=>?y16) knr
      case y16 =>
       refine AU ?_;refine' OR [1,2] (fun hb17=>?y17) knr
       case y17 =>
        refine AU ?_;refine' OR [1,2] (fun hb18=>?y18) knr
        case y18 =>
         refine AU ?_;refine' OR [1,2] (fun hb19=>?y19) knr
         case y19 =>
          refine AU ?_;refine' OR [1,2] (fun hb20=>?y20) knr
          case y20 =>
           refine AU ?_;refine' OR [1,2] (fun hb21=>?y21) knr
           case y21 =>
            refine AU ?_;refine' OR [1,2] (fun hb22=>?y22) knr
            case y22 =>
             refine AU ?_;refine' OR [1,2] (fun hb23=>?y23) knr
             case y23 =>
              refine AU ?_;refine SK [32,1,2] ?_;exact Ze knr
  case n12 =>
   refine IF (fun h24=>?_) fun h24=>?_;(try simp only [bsimp] at h24);refine RTN ?_;refine ⟨Wog ?_,g⟩;unfold textB';simp only [binOps,typeNameB,typeNames,anyS,h9,h10,h11,h24,Wug,Wtg] <;> rfl
   refine RTN ?_;refine ⟨Wog ?_,g⟩;unfold textB';simp only [binOps,typeNameB,typeNames,anyS,h9,h10,h11,h24,Wug,Wtg] <;> rfl
  refine IF (fun h25=>?_) fun h25=>?_;(try simp only [bsimp] at h25);refine AU ?_;refine' OR [1,2] (fun hb26=>?y26) (kq ?n26)
  case y26 =>
   refine AU ?_;refine' OR [1,2] (fun hb27=>?y27) knr
   case y27 =>
    refine AU ?_;refine' OR [1,2] (fun hb28=>?y28) knr
    case y28 =>
     refine AU ?_;refine' OR [1,2] (fun hb29=>?y29) knr
     case y29 =>
      refine AU ?_;refine' OR [1,2] (fun hb30=>?y30) knr
      case y30 =>
       refine AU ?_;refine' OR [1,2] (fun hb31=>?y31) knr
       case y31 =>
        refine AU ?_;refine' OR [1,2] (fun hb32=>?y32) knr
        case y32 =>
         refine AU ?_;refine' OR [1,2] (fun hb33=>?y33) knr
         case y33 =>
          refine AU ?_;refine' OR [1,2] (fun hb34=>?y34) knr
          case y34 =>
           refine AU ?_;refine SK [50,1,2] ?_;exact Ze knr
  case n26 =>
   refine IF (fun h35=>?_) fun h35=>?_;(try simp only [bsimp] at h35);refine RTN ?_;refine ⟨Wog ?_,g⟩;unfold textB';simp only [binOps,typeNameB,typeNames,anyS,h9,h10,h11,h25,h35,Wug,Wtg] <;> rfl
   refine RTN ?_;refine ⟨Wog ?_,g⟩;unfold textB';simp only [binOps,typeNameB,typeNames,anyS,h9,h10,h11,h25,h35,Wug,Wtg] <;> rfl
  refine RTN ?_;refine ⟨Wog ?_,g⟩;unfold textB';simp only [binOps,typeNameB,typeNames,anyS,h9,h10,h11,h25,Wug,Wtg] <;> rfl
end Go.Rk
