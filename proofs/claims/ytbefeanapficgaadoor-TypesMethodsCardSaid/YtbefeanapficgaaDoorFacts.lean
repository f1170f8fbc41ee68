/- Closed facts of the program: its types and its functions by name. Conditions: none. -/
import Derived.Test.YtbefeanapficgaaDoorMore
import Derived.Test.YtbefeanapficgaaDoorNest
import Derived.Test.YtbefeanapficgaaDoorProg
import Derived.KernelRfl
namespace Go.Rk
open Go
@[reducible] noncomputable def PP : Program := Go.Proofs.Tryd.prog
theorem mix : PP.follows .mixedOrders = true := by kernel_rfl
@[reducible] def fn_l05_TypesText : Nat := 3
theorem go_l05_TypesText : goFn PP 3 = true := by kernel_rfl
theorem func_l05_TypesText : PP.funcs[3]? = some Go.Proofs.Tryd.f3 := Go.Proofs.Tryd.func3
@[reducible] def fn_l05_TypesBinary : Nat := 4
theorem go_l05_TypesBinary : goFn PP 4 = true := by kernel_rfl
theorem func_l05_TypesBinary : PP.funcs[4]? = some Go.Proofs.Tryd.f4 := Go.Proofs.Tryd.func4
@[reducible] def fn_l05_TypesMethods : Nat := 5
theorem go_l05_TypesMethods : goFn PP 5 = true := by kernel_rfl
theorem func_l05_TypesMethods : PP.funcs[5]? = some Go.Proofs.Tryd.f5 := Go.Proofs.Tryd.func5
@[reducible] def fn_l05_TypesAssign : Nat := 6
theorem go_l05_TypesAssign : goFn PP 6 = true := by kernel_rfl
theorem func_l05_TypesAssign : PP.funcs[6]? = some Go.Proofs.Tryd.f6 := Go.Proofs.Tryd.func6
@[reducible] def fn_l05_TypesCompare : Nat := 7
theorem go_l05_TypesCompare : goFn PP 7 = true := by kernel_rfl
theorem func_l05_TypesCompare : PP.funcs[7]? = some Go.Proofs.Tryd.f7 := Go.Proofs.Tryd.func7
@[reducible] def fn_l05_TypesOf : Nat := 8
theorem go_l05_TypesOf : goFn PP 8 = true := by kernel_rfl
theorem func_l05_TypesOf : PP.funcs[8]? = some Go.Proofs.Tryd.f8 := Go.Proofs.Tryd.func8
@[reducible] def fn_l05_TypesFields : Nat := 9
theorem go_l05_TypesFields : goFn PP 9 = true := by kernel_rfl
theorem func_l05_TypesFields : PP.funcs[9]? = some Go.Proofs.Tryd.f9 := Go.Proofs.Tryd.func9
@[reducible] def fn_l05_awake : Nat := 10
theorem go_l05_awake : goFn PP 10 = true := by kernel_rfl
theorem func_l05_awake : PP.funcs[10]? = some Go.Proofs.Tryd.f10 := Go.Proofs.Tryd.func10
@[reducible] def fn_types_Text : Nat := 11
theorem go_types_Text : goFn PP 11 = true := by kernel_rfl
theorem func_types_Text : PP.funcs[11]? = some Go.Proofs.Tryd.f11 := Go.Proofs.Tryd.func11
@[reducible] def fn_r05_Text : Nat := 12
theorem go_r05_Text : goFn PP 12 = true := by kernel_rfl
theorem func_r05_Text : PP.funcs[12]? = some Go.Proofs.Tryd.f12 := Go.Proofs.Tryd.func12
@[reducible] def fn_types_Cell : Nat := 13
theorem go_types_Cell : goFn PP 13 = true := by kernel_rfl
theorem func_types_Cell : PP.funcs[13]? = some Go.Proofs.Tryd.f13 := Go.Proofs.Tryd.func13
@[reducible] def fn_r05_Cell : Nat := 14
theorem go_r05_Cell : goFn PP 14 = true := by kernel_rfl
theorem func_r05_Cell : PP.funcs[14]? = some Go.Proofs.Tryd.f14 := Go.Proofs.Tryd.func14
@[reducible] def fn_types_Value : Nat := 15
theorem go_types_Value : goFn PP 15 = true := by kernel_rfl
theorem func_types_Value : PP.funcs[15]? = some Go.Proofs.Tryd.f15 := Go.Proofs.Tryd.func15
@[reducible] def fn_r05_Value : Nat := 16
theorem go_r05_Value : goFn PP 16 = true := by kernel_rfl
theorem func_r05_Value : PP.funcs[16]? = some Go.Proofs.Tryd.f16 := Go.Proofs.Tryd.func16
@[reducible] def fn_r05_Valid : Nat := 17
theorem go_r05_Valid : goFn PP 17 = true := by kernel_rfl
theorem func_r05_Valid : PP.funcs[17]? = some Go.Proofs.Tryd.f17 := Go.Proofs.Tryd.func17
@[reducible] def fn_types_Binary : Nat := 18
theorem go_types_Binary : goFn PP 18 = true := by kernel_rfl
theorem func_types_Binary : PP.funcs[18]? = some Go.Proofs.Tryd.f18 := Go.Proofs.Tryd.func18
@[reducible] def fn_r05_Binary : Nat := 19
theorem go_r05_Binary : goFn PP 19 = true := by kernel_rfl
theorem func_r05_Binary : PP.funcs[19]? = some Go.Proofs.Tryd.f19 := Go.Proofs.Tryd.func19
@[reducible] def fn_r03_BinaryOp : Nat := 20
theorem go_r03_BinaryOp : goFn PP 20 = true := by kernel_rfl
theorem func_r03_BinaryOp : PP.funcs[20]? = some Go.Proofs.Tryd.f20 := Go.Proofs.Tryd.func20
@[reducible] def fn_types_Method : Nat := 21
theorem go_types_Method : goFn PP 21 = true := by kernel_rfl
theorem func_types_Method : PP.funcs[21]? = some Go.Proofs.Tryd.f21 := Go.Proofs.Tryd.func21
@[reducible] def fn_r05_Method : Nat := 22
theorem go_r05_Method : goFn PP 22 = true := by kernel_rfl
theorem func_r05_Method : PP.funcs[22]? = some Go.Proofs.Tryd.f22 := Go.Proofs.Tryd.func22
@[reducible] def fn_r05_SameTypes : Nat := 23
theorem go_r05_SameTypes : goFn PP 23 = true := by kernel_rfl
theorem func_r05_SameTypes : PP.funcs[23]? = some Go.Proofs.Tryd.f23 := Go.Proofs.Tryd.func23
@[reducible] def fn_types_Assignable : Nat := 24
theorem go_types_Assignable : goFn PP 24 = true := by kernel_rfl
theorem func_types_Assignable : PP.funcs[24]? = some Go.Proofs.Tryd.f24 := Go.Proofs.Tryd.func24
@[reducible] def fn_r05_Assignable : Nat := 25
theorem go_r05_Assignable : goFn PP 25 = true := by kernel_rfl
theorem func_r05_Assignable : PP.funcs[25]? = some Go.Proofs.Tryd.f25 := Go.Proofs.Tryd.func25
@[reducible] def fn_types_Comparable : Nat := 26
theorem go_types_Comparable : goFn PP 26 = true := by kernel_rfl
theorem func_types_Comparable : PP.funcs[26]? = some Go.Proofs.Tryd.f26 := Go.Proofs.Tryd.func26
@[reducible] def fn_r05_Comparable : Nat := 27
theorem go_r05_Comparable : goFn PP 27 = true := by kernel_rfl
theorem func_r05_Comparable : PP.funcs[27]? = some Go.Proofs.Tryd.f27 := Go.Proofs.Tryd.func27
@[reducible] def fn_r03_Count : Nat := 28
theorem go_r03_Count : goFn PP 28 = true := by kernel_rfl
theorem func_r03_Count : PP.funcs[28]? = some Go.Proofs.Tryd.f28 := Go.Proofs.Tryd.func28
@[reducible] def fn_r03_List : Nat := 29
theorem go_r03_List : goFn PP 29 = true := by kernel_rfl
theorem func_r03_List : PP.funcs[29]? = some Go.Proofs.Tryd.f29 := Go.Proofs.Tryd.func29
@[reducible] def fn_types_Of : Nat := 30
theorem go_types_Of : goFn PP 30 = true := by kernel_rfl
theorem func_types_Of : PP.funcs[30]? = some Go.Proofs.Tryd.f30 := Go.Proofs.Tryd.func30
@[reducible] def fn_r03_Copy : Nat := 31
theorem go_r03_Copy : goFn PP 31 = true := by kernel_rfl
theorem func_r03_Copy : PP.funcs[31]? = some Go.Proofs.Tryd.f31 := Go.Proofs.Tryd.func31
@[reducible] def fn_r05_Of : Nat := 32
theorem go_r05_Of : goFn PP 32 = true := by kernel_rfl
theorem func_r05_Of : PP.funcs[32]? = some Go.Proofs.Tryd.f32 := Go.Proofs.Tryd.func32
@[reducible] def fn_types_Fields : Nat := 33
theorem go_types_Fields : goFn PP 33 = true := by kernel_rfl
theorem func_types_Fields : PP.funcs[33]? = some Go.Proofs.Tryd.f33 := Go.Proofs.Tryd.func33
@[reducible] def fn_r05_Fields : Nat := 34
theorem go_r05_Fields : goFn PP 34 = true := by kernel_rfl
theorem func_r05_Fields : PP.funcs[34]? = some Go.Proofs.Tryd.f34 := Go.Proofs.Tryd.func34
@[reducible] def fn_r05_SameFields : Nat := 35
theorem go_r05_SameFields : goFn PP 35 = true := by kernel_rfl
theorem func_r05_SameFields : PP.funcs[35]? = some Go.Proofs.Tryd.f35 := Go.Proofs.Tryd.func35
@[reducible] def fn_types_valid : Nat := 36
theorem go_types_valid : goFn PP 36 = true := by kernel_rfl
theorem func_types_valid : PP.funcs[36]? = some Go.Proofs.Tryd.f36 := Go.Proofs.Tryd.func36
@[reducible] def fn_types_reference : Nat := 37
theorem go_types_reference : goFn PP 37 = true := by kernel_rfl
theorem func_types_reference : PP.funcs[37]? = some Go.Proofs.Tryd.f37 := Go.Proofs.Tryd.func37
@[reducible] def fn_r05_Reference : Nat := 38
theorem go_r05_Reference : goFn PP 38 = true := by kernel_rfl
theorem func_r05_Reference : PP.funcs[38]? = some Go.Proofs.Tryd.f38 := Go.Proofs.Tryd.func38
@[reducible] def fn_r02_Name : Nat := 39
theorem go_r02_Name : goFn PP 39 = true := by kernel_rfl
theorem func_r02_Name : PP.funcs[39]? = some Go.Proofs.Tryd.f39 := Go.Proofs.Tryd.func39
@[reducible] def fn_types_Binary_1 : Nat := 40
theorem go_types_Binary_1 : goFn PP 40 = true := by kernel_rfl
theorem func_types_Binary_1 : PP.funcs[40]? = some Go.Proofs.Tryd.f40 := Go.Proofs.Tryd.func40
@[reducible] def fn_types_name : Nat := 41
theorem go_types_name : goFn PP 41 = true := by kernel_rfl
theorem func_types_name : PP.funcs[41]? = some Go.Proofs.Tryd.f41 := Go.Proofs.Tryd.func41
@[reducible] def fn_r03_IsType : Nat := 42
theorem go_r03_IsType : goFn PP 42 = true := by kernel_rfl
theorem func_r03_IsType : PP.funcs[42]? = some Go.Proofs.Tryd.f42 := Go.Proofs.Tryd.func42
@[reducible] def fn_r02_letter : Nat := 43
theorem go_r02_letter : goFn PP 43 = true := by kernel_rfl
theorem func_r02_letter : PP.funcs[43]? = some Go.Proofs.Tryd.f43 := Go.Proofs.Tryd.func43
@[reducible] def fn_r02_Keyword : Nat := 44
theorem go_r02_Keyword : goFn PP 44 = true := by kernel_rfl
theorem func_r02_Keyword : PP.funcs[44]? = some Go.Proofs.Tryd.f44 := Go.Proofs.Tryd.func44
@[reducible] def fn_r02_digit : Nat := 45
theorem go_r02_digit : goFn PP 45 = true := by kernel_rfl
theorem func_r02_digit : PP.funcs[45]? = some Go.Proofs.Tryd.f45 := Go.Proofs.Tryd.func45
@[reducible] def fn_scan_Scan : Nat := 46
theorem go_scan_Scan : goFn PP 46 = true := by kernel_rfl
theorem func_scan_Scan : PP.funcs[46]? = some Go.Proofs.Tryd.f46 := Go.Proofs.Tryd.func46
@[reducible] def fn_r03_typeName : Nat := 47
theorem go_r03_typeName : goFn PP 47 = true := by kernel_rfl
theorem func_r03_typeName : PP.funcs[47]? = some Go.Proofs.Tryd.f47 := Go.Proofs.Tryd.func47
@[reducible] def fn_scan_all : Nat := 48
theorem go_scan_all : goFn PP 48 = true := by kernel_rfl
theorem func_scan_all : PP.funcs[48]? = some Go.Proofs.Tryd.f48 := Go.Proofs.Tryd.func48
@[reducible] def fn_scan_scanner_next : Nat := 49
theorem go_scan_scanner_next : goFn PP 49 = true := by kernel_rfl
theorem func_scan_scanner_next : PP.funcs[49]? = some Go.Proofs.Tryd.f49 := Go.Proofs.Tryd.func49
@[reducible] def fn_scan_scanner_newline : Nat := 50
theorem go_scan_scanner_newline : goFn PP 50 = true := by kernel_rfl
theorem func_scan_scanner_newline : PP.funcs[50]? = some Go.Proofs.Tryd.f50 := Go.Proofs.Tryd.func50
@[reducible] def fn_strings_HasPrefix : Nat := 51
theorem go_strings_HasPrefix : goFn PP 51 = true := by kernel_rfl
theorem func_strings_HasPrefix : PP.funcs[51]? = some Go.Proofs.Tryd.f51 := Go.Proofs.Tryd.func51
@[reducible] def fn_scan_scanner_run : Nat := 52
theorem go_scan_scanner_run : goFn PP 52 = true := by kernel_rfl
theorem func_scan_scanner_run : PP.funcs[52]? = some Go.Proofs.Tryd.f52 := Go.Proofs.Tryd.func52
@[reducible] def fn_scan_scanner_next_1 : Nat := 53
theorem go_scan_scanner_next_1 : goFn PP 53 = true := by kernel_rfl
theorem func_scan_scanner_next_1 : PP.funcs[53]? = some Go.Proofs.Tryd.f53 := Go.Proofs.Tryd.func53
@[reducible] def fn_scan_letter : Nat := 54
theorem go_scan_letter : goFn PP 54 = true := by kernel_rfl
theorem func_scan_letter : PP.funcs[54]? = some Go.Proofs.Tryd.f54 := Go.Proofs.Tryd.func54
@[reducible] def fn_scan_scanner_next_2 : Nat := 55
theorem go_scan_scanner_next_2 : goFn PP 55 = true := by kernel_rfl
theorem func_scan_scanner_next_2 : PP.funcs[55]? = some Go.Proofs.Tryd.f55 := Go.Proofs.Tryd.func55
@[reducible] def fn_scan_digit : Nat := 56
theorem go_scan_digit : goFn PP 56 = true := by kernel_rfl
theorem func_scan_digit : PP.funcs[56]? = some Go.Proofs.Tryd.f56 := Go.Proofs.Tryd.func56
@[reducible] def fn_scan_Keyword : Nat := 57
theorem go_scan_Keyword : goFn PP 57 = true := by kernel_rfl
theorem func_scan_Keyword : PP.funcs[57]? = some Go.Proofs.Tryd.f57 := Go.Proofs.Tryd.func57
@[reducible] def fn_scan_scanner_put : Nat := 58
theorem go_scan_scanner_put : goFn PP 58 = true := by kernel_rfl
theorem func_scan_scanner_put : PP.funcs[58]? = some Go.Proofs.Tryd.f58 := Go.Proofs.Tryd.func58
@[reducible] def fn_strconv_ParseInt : Nat := 59
theorem go_strconv_ParseInt : goFn PP 59 = true := by kernel_rfl
theorem func_strconv_ParseInt : PP.funcs[59]? = some Go.Proofs.Tryd.f59 := Go.Proofs.Tryd.func59
@[reducible] def fn_scan_ending : Nat := 60
theorem go_scan_ending : goFn PP 60 = true := by kernel_rfl
theorem func_scan_ending : PP.funcs[60]? = some Go.Proofs.Tryd.f60 := Go.Proofs.Tryd.func60
@[reducible] def fn_internal_stringslite_HasPrefix : Nat := 61
theorem go_internal_stringslite_HasPrefix : goFn PP 61 = true := by kernel_rfl
theorem func_internal_stringslite_HasPrefix : PP.funcs[61]? = some Go.Proofs.Tryd.f61 := Go.Proofs.Tryd.func61
@[reducible] def fn_strconv_toError : Nat := 63
theorem go_strconv_toError : goFn PP 63 = true := by kernel_rfl
theorem func_strconv_toError : PP.funcs[63]? = some Go.Proofs.Tryd.f63 := Go.Proofs.Tryd.func63
@[reducible] def fn_strconv_syntaxError : Nat := 65
theorem go_strconv_syntaxError : goFn PP 65 = true := by kernel_rfl
theorem func_strconv_syntaxError : PP.funcs[65]? = some Go.Proofs.Tryd.f65 := Go.Proofs.Tryd.func65
@[reducible] def fn_strconv_rangeError : Nat := 66
theorem go_strconv_rangeError : goFn PP 66 = true := by kernel_rfl
theorem func_strconv_rangeError : PP.funcs[66]? = some Go.Proofs.Tryd.f66 := Go.Proofs.Tryd.func66
@[reducible] def fn_strconv_baseError : Nat := 67
theorem go_strconv_baseError : goFn PP 67 = true := by kernel_rfl
theorem func_strconv_baseError : PP.funcs[67]? = some Go.Proofs.Tryd.f67 := Go.Proofs.Tryd.func67
@[reducible] def fn_strconv_bitSizeError : Nat := 68
theorem go_strconv_bitSizeError : goFn PP 68 = true := by kernel_rfl
theorem func_strconv_bitSizeError : PP.funcs[68]? = some Go.Proofs.Tryd.f68 := Go.Proofs.Tryd.func68
@[reducible] def fn_internal_stringslite_Clone : Nat := 71
theorem go_internal_stringslite_Clone : goFn PP 71 = true := by kernel_rfl
theorem func_internal_stringslite_Clone : PP.funcs[71]? = some Go.Proofs.Tryd.f71 := Go.Proofs.Tryd.func71
@[reducible] def fn_strconv_Itoa : Nat := 73
theorem go_strconv_Itoa : goFn PP 73 = true := by kernel_rfl
theorem func_strconv_Itoa : PP.funcs[73]? = some Go.Proofs.Tryd.f73 := Go.Proofs.Tryd.func73
@[reducible] def ty_int64 : Nat := 2
theorem sz_int64 : tySize PP 2 = some 1 := by kernel_rfl
theorem ze_int64 : zeroOf PP 2 = some (.int .i64 0) := by kernel_rfl
theorem one_int64 : tyOne PP 2 = true := by kernel_rfl
theorem ik_int64 : tyInt PP 2 = some .i64 := by kernel_rfl
@[reducible] def ty_int : Nat := 3
theorem sz_int : tySize PP 3 = some 1 := by kernel_rfl
theorem ze_int : zeroOf PP 3 = some (.int .i64 0) := by kernel_rfl
theorem one_int : tyOne PP 3 = true := by kernel_rfl
theorem ik_int : tyInt PP 3 = some .i64 := by kernel_rfl
@[reducible] def ty_bool : Nat := 4
theorem sz_bool : tySize PP 4 = some 1 := by kernel_rfl
theorem ze_bool : zeroOf PP 4 = some (.bool false) := by kernel_rfl
theorem one_bool : tyOne PP 4 = true := by kernel_rfl
theorem und_bool : PP.underlying 4 = some .bool := by kernel_rfl
@[reducible] def ty_uint8 : Nat := 5
theorem sz_uint8 : tySize PP 5 = some 1 := by kernel_rfl
theorem ze_uint8 : zeroOf PP 5 = some (.int .u8 0) := by kernel_rfl
theorem one_uint8 : tyOne PP 5 = true := by kernel_rfl
theorem ik_uint8 : tyInt PP 5 = some .u8 := by kernel_rfl
@[reducible] def ty_string : Nat := 9
theorem sz_string : tySize PP 9 = some 1 := by kernel_rfl
theorem ze_string : zeroOf PP 9 = some (.string ⟨#[]⟩) := by kernel_rfl
theorem one_string : tyOne PP 9 = true := by kernel_rfl
theorem str_string : tyStr PP 9 = true := by kernel_rfl
@[reducible] def ty_api_Type : Nat := 23
theorem sz_api_Type : tySize PP 23 = some 2 := by kernel_rfl
theorem ze_api_Type : zeroOf PP 23 = some (.agg #[.int .i64 0, .string ⟨#[]⟩]) := by kernel_rfl
theorem agg_api_Type : tyAgg PP 23 = some 2 := by kernel_rfl
theorem fl_api_Type : tyFlat PP 23 = some [0, 1] := by kernel_rfl
theorem fo_api_Type_0 : fieldOff PP 23 0 = some 0 := by kernel_rfl
theorem fi_api_Type_0 : fieldIn PP 23 0 = some (0, none) := by kernel_rfl
theorem fo_api_Type_1 : fieldOff PP 23 1 = some 1 := by kernel_rfl
theorem fi_api_Type_1 : fieldIn PP 23 1 = some (1, none) := by kernel_rfl
theorem pl_api_Type : structPlaces PP 23 = some [(0, 1), (1, 1)] := by kernel_rfl
@[reducible] def ty_func_api_Type_bool : Nat := 27
theorem sz_func_api_Type_bool : tySize PP 27 = some 1 := by kernel_rfl
theorem ze_func_api_Type_bool : zeroOf PP 27 = some (.nilFunc) := by kernel_rfl
theorem one_func_api_Type_bool : tyOne PP 27 = true := by kernel_rfl
@[reducible] def ty_sl_api_Type : Nat := 33
theorem sz_sl_api_Type : tySize PP 33 = some 1 := by kernel_rfl
theorem ze_sl_api_Type : zeroOf PP 33 = some (.slice none 0 0) := by kernel_rfl
theorem one_sl_api_Type : tyOne PP 33 = true := by kernel_rfl
theorem el_sl_api_Type : tyElem PP 33 = some (23, 2, 24) := by kernel_rfl
@[reducible] def ty_sl_api_Node : Nat := 38
theorem sz_sl_api_Node : tySize PP 38 = some 1 := by kernel_rfl
theorem ze_sl_api_Node : zeroOf PP 38 = some (.slice none 0 0) := by kernel_rfl
theorem one_sl_api_Node : tyOne PP 38 = true := by kernel_rfl
theorem el_sl_api_Node : tyElem PP 38 = some (40, 9, 104) := by kernel_rfl
@[reducible] def ty_api_Node : Nat := 40
theorem sz_api_Node : tySize PP 40 = some 9 := by kernel_rfl
theorem ze_api_Node : zeroOf PP 40 = some (.agg #[.int .i64 0, .string ⟨#[]⟩, .int .i64 0, .int .i64 0, .slice none 0 0, .int .i64 0, .string ⟨#[]⟩, .int .i64 0, .int .i64 0]) := by kernel_rfl
theorem agg_api_Node : tyAgg PP 40 = some 9 := by kernel_rfl
theorem fo_api_Node_0 : fieldOff PP 40 0 = some 0 := by kernel_rfl
theorem fi_api_Node_0 : fieldIn PP 40 0 = some (0, none) := by kernel_rfl
theorem fo_api_Node_1 : fieldOff PP 40 1 = some 1 := by kernel_rfl
theorem fi_api_Node_1 : fieldIn PP 40 1 = some (1, none) := by kernel_rfl
theorem fo_api_Node_2 : fieldOff PP 40 2 = some 2 := by kernel_rfl
theorem fi_api_Node_2 : fieldIn PP 40 2 = some (2, none) := by kernel_rfl
theorem fo_api_Node_3 : fieldOff PP 40 3 = some 3 := by kernel_rfl
theorem fi_api_Node_3 : fieldIn PP 40 3 = some (3, none) := by kernel_rfl
theorem fo_api_Node_4 : fieldOff PP 40 4 = some 4 := by kernel_rfl
theorem fi_api_Node_4 : fieldIn PP 40 4 = some (4, none) := by kernel_rfl
theorem fo_api_Node_5 : fieldOff PP 40 5 = some 5 := by kernel_rfl
theorem fi_api_Node_5 : fieldIn PP 40 5 = some (5, some 2) := by kernel_rfl
theorem fo_api_Node_6 : fieldOff PP 40 6 = some 7 := by kernel_rfl
theorem fi_api_Node_6 : fieldIn PP 40 6 = some (7, none) := by kernel_rfl
theorem fo_api_Node_7 : fieldOff PP 40 7 = some 8 := by kernel_rfl
theorem fi_api_Node_7 : fieldIn PP 40 7 = some (8, none) := by kernel_rfl
theorem pl_api_Node : structPlaces PP 40 = some [(0, 1), (1, 1), (2, 1), (3, 1), (4, 1), (5, 2), (7, 1), (8, 1)] := by kernel_rfl
@[reducible] def ty_sl_api_Field : Nat := 46
theorem sz_sl_api_Field : tySize PP 46 = some 1 := by kernel_rfl
theorem ze_sl_api_Field : zeroOf PP 46 = some (.slice none 0 0) := by kernel_rfl
theorem one_sl_api_Field : tyOne PP 46 = true := by kernel_rfl
theorem el_sl_api_Field : tyElem PP 46 = some (53, 3, 40) := by kernel_rfl
@[reducible] def ty_13_string : Nat := 51
theorem sz_13_string : tySize PP 51 = some 13 := by kernel_rfl
theorem ze_13_string : zeroOf PP 51 = some (.agg #[.string ⟨#[]⟩, .string ⟨#[]⟩, .string ⟨#[]⟩, .string ⟨#[]⟩, .string ⟨#[]⟩, .string ⟨#[]⟩, .string ⟨#[]⟩, .string ⟨#[]⟩, .string ⟨#[]⟩, .string ⟨#[]⟩, .string ⟨#[]⟩, .string ⟨#[]⟩, .string ⟨#[]⟩]) := by kernel_rfl
theorem agg_13_string : tyAgg PP 51 = some 13 := by kernel_rfl
theorem ar_13_string : tyArr1 PP 51 = some 13 := by kernel_rfl
@[reducible] def ty_api_Field : Nat := 53
theorem sz_api_Field : tySize PP 53 = some 3 := by kernel_rfl
theorem ze_api_Field : zeroOf PP 53 = some (.agg #[.string ⟨#[]⟩, .int .i64 0, .string ⟨#[]⟩]) := by kernel_rfl
theorem agg_api_Field : tyAgg PP 53 = some 3 := by kernel_rfl
theorem ne_api_Field : tyNest PP 53 = some [(none, [1]), (some 23, [0, 1])] := by kernel_rfl
theorem fo_api_Field_0 : fieldOff PP 53 0 = some 0 := by kernel_rfl
theorem fi_api_Field_0 : fieldIn PP 53 0 = some (0, none) := by kernel_rfl
theorem fo_api_Field_1 : fieldOff PP 53 1 = some 1 := by kernel_rfl
theorem fi_api_Field_1 : fieldIn PP 53 1 = some (1, some 2) := by kernel_rfl
theorem pl_api_Field : structPlaces PP 53 = some [(0, 1), (1, 2)] := by kernel_rfl
@[reducible] def ty_func_uint8_bool : Nat := 54
theorem sz_func_uint8_bool : tySize PP 54 = some 1 := by kernel_rfl
theorem ze_func_uint8_bool : zeroOf PP 54 = some (.nilFunc) := by kernel_rfl
theorem one_func_uint8_bool : tyOne PP 54 = true := by kernel_rfl
@[reducible] def ty_sl_api_Token : Nat := 55
theorem sz_sl_api_Token : tySize PP 55 = some 1 := by kernel_rfl
theorem ze_sl_api_Token : zeroOf PP 55 = some (.slice none 0 0) := by kernel_rfl
theorem one_sl_api_Token : tyOne PP 55 = true := by kernel_rfl
theorem el_sl_api_Token : tyElem PP 55 = some (60, 3, 32) := by kernel_rfl
@[reducible] def ty_api_Errno : Nat := 56
theorem sz_api_Errno : tySize PP 56 = some 1 := by kernel_rfl
theorem ze_api_Errno : zeroOf PP 56 = some (.int .i64 0) := by kernel_rfl
theorem one_api_Errno : tyOne PP 56 = true := by kernel_rfl
theorem ik_api_Errno : tyInt PP 56 = some .i64 := by kernel_rfl
@[reducible] def ty_api_Token : Nat := 60
theorem sz_api_Token : tySize PP 60 = some 3 := by kernel_rfl
theorem ze_api_Token : zeroOf PP 60 = some (.agg #[.int .i64 0, .string ⟨#[]⟩, .int .i64 0]) := by kernel_rfl
theorem agg_api_Token : tyAgg PP 60 = some 3 := by kernel_rfl
theorem fo_api_Token_0 : fieldOff PP 60 0 = some 0 := by kernel_rfl
theorem fi_api_Token_0 : fieldIn PP 60 0 = some (0, none) := by kernel_rfl
theorem fo_api_Token_1 : fieldOff PP 60 1 = some 1 := by kernel_rfl
theorem fi_api_Token_1 : fieldIn PP 60 1 = some (1, none) := by kernel_rfl
theorem fo_api_Token_2 : fieldOff PP 60 2 = some 2 := by kernel_rfl
theorem fi_api_Token_2 : fieldIn PP 60 2 = some (2, none) := by kernel_rfl
theorem pl_api_Token : structPlaces PP 60 = some [(0, 1), (1, 1), (2, 1)] := by kernel_rfl
@[reducible] def ty_p_scan_scanner : Nat := 61
theorem sz_p_scan_scanner : tySize PP 61 = some 1 := by kernel_rfl
theorem ze_p_scan_scanner : zeroOf PP 61 = some (.pointer none) := by kernel_rfl
theorem one_p_scan_scanner : tyOne PP 61 = true := by kernel_rfl
@[reducible] def ty_scan_scanner : Nat := 65
theorem sz_scan_scanner : tySize PP 65 = some 4 := by kernel_rfl
theorem ze_scan_scanner : zeroOf PP 65 = some (.agg #[.string ⟨#[]⟩, .int .i64 0, .slice none 0 0, .slice none 0 0]) := by kernel_rfl
theorem agg_scan_scanner : tyAgg PP 65 = some 4 := by kernel_rfl
theorem fo_scan_scanner_0 : fieldOff PP 65 0 = some 0 := by kernel_rfl
theorem fi_scan_scanner_0 : fieldIn PP 65 0 = some (0, none) := by kernel_rfl
theorem fo_scan_scanner_1 : fieldOff PP 65 1 = some 1 := by kernel_rfl
theorem fi_scan_scanner_1 : fieldIn PP 65 1 = some (1, none) := by kernel_rfl
theorem fo_scan_scanner_2 : fieldOff PP 65 2 = some 2 := by kernel_rfl
theorem fi_scan_scanner_2 : fieldIn PP 65 2 = some (2, none) := by kernel_rfl
theorem fo_scan_scanner_3 : fieldOff PP 65 3 = some 3 := by kernel_rfl
theorem fi_scan_scanner_3 : fieldIn PP 65 3 = some (3, none) := by kernel_rfl
theorem pl_scan_scanner : structPlaces PP 65 = some [(0, 1), (1, 1), (2, 1), (3, 1)] := by kernel_rfl
@[reducible] def ty_error : Nat := 71
theorem sz_error : tySize PP 71 = some 1 := by kernel_rfl
theorem ze_error : zeroOf PP 71 = some (.nilIface) := by kernel_rfl
theorem one_error : tyOne PP 71 = true := by kernel_rfl
theorem if_error : PP.isIface 71 = true := by kernel_rfl
@[reducible] def ty_27_string : Nat := 74
theorem sz_27_string : tySize PP 74 = some 27 := by kernel_rfl
theorem ze_27_string : zeroOf PP 74 = some (.agg #[.string ⟨#[]⟩, .string ⟨#[]⟩, .string ⟨#[]⟩, .string ⟨#[]⟩, .string ⟨#[]⟩, .string ⟨#[]⟩, .string ⟨#[]⟩, .string ⟨#[]⟩, .string ⟨#[]⟩, .string ⟨#[]⟩, .string ⟨#[]⟩, .string ⟨#[]⟩, .string ⟨#[]⟩, .string ⟨#[]⟩, .string ⟨#[]⟩, .string ⟨#[]⟩, .string ⟨#[]⟩, .string ⟨#[]⟩, .string ⟨#[]⟩, .string ⟨#[]⟩, .string ⟨#[]⟩, .string ⟨#[]⟩, .string ⟨#[]⟩, .string ⟨#[]⟩, .string ⟨#[]⟩, .string ⟨#[]⟩, .string ⟨#[]⟩]) := by kernel_rfl
theorem agg_27_string : tyAgg PP 74 = some 27 := by kernel_rfl
theorem ar_27_string : tyArr1 PP 74 = some 27 := by kernel_rfl
@[reducible] def ty_strconv_Error : Nat := 76
theorem sz_strconv_Error : tySize PP 76 = some 1 := by kernel_rfl
theorem ze_strconv_Error : zeroOf PP 76 = some (.int .i64 0) := by kernel_rfl
theorem one_strconv_Error : tyOne PP 76 = true := by kernel_rfl
theorem ik_strconv_Error : tyInt PP 76 = some .i64 := by kernel_rfl
theorem con_strconv_Error : tyConc PP 76 = true := by kernel_rfl
@[reducible] def ty_p_strconv_NumError : Nat := 81
theorem sz_p_strconv_NumError : tySize PP 81 = some 1 := by kernel_rfl
theorem ze_p_strconv_NumError : zeroOf PP 81 = some (.pointer none) := by kernel_rfl
theorem one_p_strconv_NumError : tyOne PP 81 = true := by kernel_rfl
theorem con_p_strconv_NumError : tyConc PP 81 = true := by kernel_rfl
@[reducible] def ty_sl_uint8 : Nat := 85
theorem sz_sl_uint8 : tySize PP 85 = some 1 := by kernel_rfl
theorem ze_sl_uint8 : zeroOf PP 85 = some (.slice none 0 0) := by kernel_rfl
theorem one_sl_uint8 : tyOne PP 85 = true := by kernel_rfl
theorem el_sl_uint8 : tyElem PP 85 = some (5, 1, 1) := by kernel_rfl
@[reducible] def ty_strconv_NumError : Nat := 88
theorem sz_strconv_NumError : tySize PP 88 = some 3 := by kernel_rfl
theorem ze_strconv_NumError : zeroOf PP 88 = some (.agg #[.string ⟨#[]⟩, .string ⟨#[]⟩, .nilIface]) := by kernel_rfl
theorem agg_strconv_NumError : tyAgg PP 88 = some 3 := by kernel_rfl
theorem fo_strconv_NumError_0 : fieldOff PP 88 0 = some 0 := by kernel_rfl
theorem fi_strconv_NumError_0 : fieldIn PP 88 0 = some (0, none) := by kernel_rfl
theorem fo_strconv_NumError_1 : fieldOff PP 88 1 = some 1 := by kernel_rfl
theorem fi_strconv_NumError_1 : fieldIn PP 88 1 = some (1, none) := by kernel_rfl
theorem fo_strconv_NumError_2 : fieldOff PP 88 2 = some 2 := by kernel_rfl
theorem fi_strconv_NumError_2 : fieldIn PP 88 2 = some (2, none) := by kernel_rfl
theorem pl_strconv_NumError : structPlaces PP 88 = some [(0, 1), (1, 1), (2, 1)] := by kernel_rfl
@[reducible] def ty_p_uint8 : Nat := 91
theorem sz_p_uint8 : tySize PP 91 = some 1 := by kernel_rfl
theorem ze_p_uint8 : zeroOf PP 91 = some (.pointer none) := by kernel_rfl
theorem one_p_uint8 : tyOne PP 91 = true := by kernel_rfl
end Go.Rk
