/- Closed facts of the program: its types and its functions by name. Conditions: none. -/
import Derived.Test.YtpbnkinfkkokfaaDoorMore
import Derived.Test.YtpbnkinfkkokfaaDoorProg
import Derived.KernelRfl
namespace Go.Rk
open Go
@[reducible] noncomputable def PP : Program := Go.Proofs.Tryd.prog
theorem mix : PP.follows .mixedOrders = true := by kernel_rfl
@[reducible] def fn_l02_ScanTokens : Nat := 3
theorem go_l02_ScanTokens : goFn PP 3 = true := by kernel_rfl
theorem func_l02_ScanTokens : PP.funcs[3]? = some Go.Proofs.Tryd.f3 := Go.Proofs.Tryd.func3
@[reducible] def fn_l02_ScanComments : Nat := 4
theorem go_l02_ScanComments : goFn PP 4 = true := by kernel_rfl
theorem func_l02_ScanComments : PP.funcs[4]? = some Go.Proofs.Tryd.f4 := Go.Proofs.Tryd.func4
@[reducible] def fn_l02_ScanLong : Nat := 5
theorem go_l02_ScanLong : goFn PP 5 = true := by kernel_rfl
theorem func_l02_ScanLong : PP.funcs[5]? = some Go.Proofs.Tryd.f5 := Go.Proofs.Tryd.func5
@[reducible] def fn_l02_ScanKeywords : Nat := 6
theorem go_l02_ScanKeywords : goFn PP 6 = true := by kernel_rfl
theorem func_l02_ScanKeywords : PP.funcs[6]? = some Go.Proofs.Tryd.f6 := Go.Proofs.Tryd.func6
@[reducible] def fn_l02_ScanJoin : Nat := 7
theorem go_l02_ScanJoin : goFn PP 7 = true := by kernel_rfl
theorem func_l02_ScanJoin : PP.funcs[7]? = some Go.Proofs.Tryd.f7 := Go.Proofs.Tryd.func7
@[reducible] def fn_l02_ScanPlaces : Nat := 8
theorem go_l02_ScanPlaces : goFn PP 8 = true := by kernel_rfl
theorem func_l02_ScanPlaces : PP.funcs[8]? = some Go.Proofs.Tryd.f8 := Go.Proofs.Tryd.func8
@[reducible] def fn_l02_ScanWithoutComments : Nat := 9
theorem go_l02_ScanWithoutComments : goFn PP 9 = true := by kernel_rfl
theorem func_l02_ScanWithoutComments : PP.funcs[9]? = some Go.Proofs.Tryd.f9 := Go.Proofs.Tryd.func9
@[reducible] def fn_l02_ScanConcatenation : Nat := 10
theorem go_l02_ScanConcatenation : goFn PP 10 = true := by kernel_rfl
theorem func_l02_ScanConcatenation : PP.funcs[10]? = some Go.Proofs.Tryd.f10 := Go.Proofs.Tryd.func10
@[reducible] def fn_l02_awake : Nat := 11
theorem go_l02_awake : goFn PP 11 = true := by kernel_rfl
theorem func_l02_awake : PP.funcs[11]? = some Go.Proofs.Tryd.f11 := Go.Proofs.Tryd.func11
@[reducible] def fn_scan_Scan : Nat := 12
theorem go_scan_Scan : goFn PP 12 = true := by kernel_rfl
theorem func_scan_Scan : PP.funcs[12]? = some Go.Proofs.Tryd.f12 := Go.Proofs.Tryd.func12
@[reducible] def fn_r02_Scan : Nat := 13
theorem go_r02_Scan : goFn PP 13 = true := by kernel_rfl
theorem func_r02_Scan : PP.funcs[13]? = some Go.Proofs.Tryd.f13 := Go.Proofs.Tryd.func13
@[reducible] def fn_r02_Same : Nat := 14
theorem go_r02_Same : goFn PP 14 = true := by kernel_rfl
theorem func_r02_Same : PP.funcs[14]? = some Go.Proofs.Tryd.f14 := Go.Proofs.Tryd.func14
@[reducible] def fn_scan_Comments : Nat := 15
theorem go_scan_Comments : goFn PP 15 = true := by kernel_rfl
theorem func_scan_Comments : PP.funcs[15]? = some Go.Proofs.Tryd.f15 := Go.Proofs.Tryd.func15
@[reducible] def fn_r02_Comments : Nat := 16
theorem go_r02_Comments : goFn PP 16 = true := by kernel_rfl
theorem func_r02_Comments : PP.funcs[16]? = some Go.Proofs.Tryd.f16 := Go.Proofs.Tryd.func16
@[reducible] def fn_scan_Keyword : Nat := 17
theorem go_scan_Keyword : goFn PP 17 = true := by kernel_rfl
theorem func_scan_Keyword : PP.funcs[17]? = some Go.Proofs.Tryd.f17 := Go.Proofs.Tryd.func17
@[reducible] def fn_r02_Keyword : Nat := 18
theorem go_r02_Keyword : goFn PP 18 = true := by kernel_rfl
theorem func_r02_Keyword : PP.funcs[18]? = some Go.Proofs.Tryd.f18 := Go.Proofs.Tryd.func18
@[reducible] def fn_scan_Join : Nat := 19
theorem go_scan_Join : goFn PP 19 = true := by kernel_rfl
theorem func_scan_Join : PP.funcs[19]? = some Go.Proofs.Tryd.f19 := Go.Proofs.Tryd.func19
@[reducible] def fn_r02_Join : Nat := 20
theorem go_r02_Join : goFn PP 20 = true := by kernel_rfl
theorem func_r02_Join : PP.funcs[20]? = some Go.Proofs.Tryd.f20 := Go.Proofs.Tryd.func20
@[reducible] def fn_r02_Alike : Nat := 21
theorem go_r02_Alike : goFn PP 21 = true := by kernel_rfl
theorem func_r02_Alike : PP.funcs[21]? = some Go.Proofs.Tryd.f21 := Go.Proofs.Tryd.func21
@[reducible] def fn_scan_all : Nat := 22
theorem go_scan_all : goFn PP 22 = true := by kernel_rfl
theorem func_scan_all : PP.funcs[22]? = some Go.Proofs.Tryd.f22 := Go.Proofs.Tryd.func22
@[reducible] def fn_r02_All : Nat := 23
theorem go_r02_All : goFn PP 23 = true := by kernel_rfl
theorem func_r02_All : PP.funcs[23]? = some Go.Proofs.Tryd.f23 := Go.Proofs.Tryd.func23
@[reducible] def fn_strings_Builder_WriteByte : Nat := 24
theorem go_strings_Builder_WriteByte : goFn PP 24 = true := by kernel_rfl
theorem func_strings_Builder_WriteByte : PP.funcs[24]? = some Go.Proofs.Tryd.f24 := Go.Proofs.Tryd.func24
@[reducible] def fn_strings_Builder_WriteString : Nat := 25
theorem go_strings_Builder_WriteString : goFn PP 25 = true := by kernel_rfl
theorem func_strings_Builder_WriteString : PP.funcs[25]? = some Go.Proofs.Tryd.f25 := Go.Proofs.Tryd.func25
@[reducible] def fn_strings_Builder_String : Nat := 26
theorem go_strings_Builder_String : goFn PP 26 = true := by kernel_rfl
theorem func_strings_Builder_String : PP.funcs[26]? = some Go.Proofs.Tryd.f26 := Go.Proofs.Tryd.func26
@[reducible] def fn_scan_scanner_next : Nat := 27
theorem go_scan_scanner_next : goFn PP 27 = true := by kernel_rfl
theorem func_scan_scanner_next : PP.funcs[27]? = some Go.Proofs.Tryd.f27 := Go.Proofs.Tryd.func27
@[reducible] def fn_r02_ends : Nat := 28
theorem go_r02_ends : goFn PP 28 = true := by kernel_rfl
theorem func_r02_ends : PP.funcs[28]? = some Go.Proofs.Tryd.f28 := Go.Proofs.Tryd.func28
@[reducible] def fn_r02_next : Nat := 29
theorem go_r02_next : goFn PP 29 = true := by kernel_rfl
theorem func_r02_next : PP.funcs[29]? = some Go.Proofs.Tryd.f29 := Go.Proofs.Tryd.func29
@[reducible] def fn_strings_Builder_copyCheck : Nat := 30
theorem go_strings_Builder_copyCheck : goFn PP 30 = true := by kernel_rfl
theorem func_strings_Builder_copyCheck : PP.funcs[30]? = some Go.Proofs.Tryd.f30 := Go.Proofs.Tryd.func30
@[reducible] def fn_scan_scanner_newline : Nat := 31
theorem go_scan_scanner_newline : goFn PP 31 = true := by kernel_rfl
theorem func_scan_scanner_newline : PP.funcs[31]? = some Go.Proofs.Tryd.f31 := Go.Proofs.Tryd.func31
@[reducible] def fn_strings_HasPrefix : Nat := 32
theorem go_strings_HasPrefix : goFn PP 32 = true := by kernel_rfl
theorem func_strings_HasPrefix : PP.funcs[32]? = some Go.Proofs.Tryd.f32 := Go.Proofs.Tryd.func32
@[reducible] def fn_scan_scanner_run : Nat := 33
theorem go_scan_scanner_run : goFn PP 33 = true := by kernel_rfl
theorem func_scan_scanner_run : PP.funcs[33]? = some Go.Proofs.Tryd.f33 := Go.Proofs.Tryd.func33
@[reducible] def fn_scan_scanner_next_1 : Nat := 34
theorem go_scan_scanner_next_1 : goFn PP 34 = true := by kernel_rfl
theorem func_scan_scanner_next_1 : PP.funcs[34]? = some Go.Proofs.Tryd.f34 := Go.Proofs.Tryd.func34
@[reducible] def fn_scan_letter : Nat := 35
theorem go_scan_letter : goFn PP 35 = true := by kernel_rfl
theorem func_scan_letter : PP.funcs[35]? = some Go.Proofs.Tryd.f35 := Go.Proofs.Tryd.func35
@[reducible] def fn_scan_scanner_next_2 : Nat := 36
theorem go_scan_scanner_next_2 : goFn PP 36 = true := by kernel_rfl
theorem func_scan_scanner_next_2 : PP.funcs[36]? = some Go.Proofs.Tryd.f36 := Go.Proofs.Tryd.func36
@[reducible] def fn_scan_digit : Nat := 37
theorem go_scan_digit : goFn PP 37 = true := by kernel_rfl
theorem func_scan_digit : PP.funcs[37]? = some Go.Proofs.Tryd.f37 := Go.Proofs.Tryd.func37
@[reducible] def fn_scan_scanner_put : Nat := 38
theorem go_scan_scanner_put : goFn PP 38 = true := by kernel_rfl
theorem func_scan_scanner_put : PP.funcs[38]? = some Go.Proofs.Tryd.f38 := Go.Proofs.Tryd.func38
@[reducible] def fn_strconv_ParseInt : Nat := 39
theorem go_strconv_ParseInt : goFn PP 39 = true := by kernel_rfl
theorem func_strconv_ParseInt : PP.funcs[39]? = some Go.Proofs.Tryd.f39 := Go.Proofs.Tryd.func39
@[reducible] def fn_r02_letter : Nat := 40
theorem go_r02_letter : goFn PP 40 = true := by kernel_rfl
theorem func_r02_letter : PP.funcs[40]? = some Go.Proofs.Tryd.f40 := Go.Proofs.Tryd.func40
@[reducible] def fn_r02_digit : Nat := 41
theorem go_r02_digit : goFn PP 41 = true := by kernel_rfl
theorem func_r02_digit : PP.funcs[41]? = some Go.Proofs.Tryd.f41 := Go.Proofs.Tryd.func41
@[reducible] def fn_r02_Integer : Nat := 42
theorem go_r02_Integer : goFn PP 42 = true := by kernel_rfl
theorem func_r02_Integer : PP.funcs[42]? = some Go.Proofs.Tryd.f42 := Go.Proofs.Tryd.func42
@[reducible] def fn_r02_operator : Nat := 43
theorem go_r02_operator : goFn PP 43 = true := by kernel_rfl
theorem func_r02_operator : PP.funcs[43]? = some Go.Proofs.Tryd.f43 := Go.Proofs.Tryd.func43
@[reducible] def fn_scan_ending : Nat := 45
theorem go_scan_ending : goFn PP 45 = true := by kernel_rfl
theorem func_scan_ending : PP.funcs[45]? = some Go.Proofs.Tryd.f45 := Go.Proofs.Tryd.func45
@[reducible] def fn_internal_stringslite_HasPrefix : Nat := 46
theorem go_internal_stringslite_HasPrefix : goFn PP 46 = true := by kernel_rfl
theorem func_internal_stringslite_HasPrefix : PP.funcs[46]? = some Go.Proofs.Tryd.f46 := Go.Proofs.Tryd.func46
@[reducible] def fn_strconv_toError : Nat := 48
theorem go_strconv_toError : goFn PP 48 = true := by kernel_rfl
theorem func_strconv_toError : PP.funcs[48]? = some Go.Proofs.Tryd.f48 := Go.Proofs.Tryd.func48
@[reducible] def fn_strconv_syntaxError : Nat := 50
theorem go_strconv_syntaxError : goFn PP 50 = true := by kernel_rfl
theorem func_strconv_syntaxError : PP.funcs[50]? = some Go.Proofs.Tryd.f50 := Go.Proofs.Tryd.func50
@[reducible] def fn_strconv_rangeError : Nat := 51
theorem go_strconv_rangeError : goFn PP 51 = true := by kernel_rfl
theorem func_strconv_rangeError : PP.funcs[51]? = some Go.Proofs.Tryd.f51 := Go.Proofs.Tryd.func51
@[reducible] def fn_strconv_baseError : Nat := 52
theorem go_strconv_baseError : goFn PP 52 = true := by kernel_rfl
theorem func_strconv_baseError : PP.funcs[52]? = some Go.Proofs.Tryd.f52 := Go.Proofs.Tryd.func52
@[reducible] def fn_strconv_bitSizeError : Nat := 53
theorem go_strconv_bitSizeError : goFn PP 53 = true := by kernel_rfl
theorem func_strconv_bitSizeError : PP.funcs[53]? = some Go.Proofs.Tryd.f53 := Go.Proofs.Tryd.func53
@[reducible] def fn_internal_stringslite_Clone : Nat := 56
theorem go_internal_stringslite_Clone : goFn PP 56 = true := by kernel_rfl
theorem func_internal_stringslite_Clone : PP.funcs[56]? = some Go.Proofs.Tryd.f56 := Go.Proofs.Tryd.func56
@[reducible] def fn_strconv_Itoa : Nat := 58
theorem go_strconv_Itoa : goFn PP 58 = true := by kernel_rfl
theorem func_strconv_Itoa : PP.funcs[58]? = some Go.Proofs.Tryd.f58 := Go.Proofs.Tryd.func58
@[reducible] def ty_int64 : Nat := 2
theorem sz_int64 : tySize PP 2 = some 1 := by kernel_rfl
theorem ze_int64 : zeroOf PP 2 = some (.int .i64 0) := by kernel_rfl
theorem one_int64 : tyOne PP 2 = true := by kernel_rfl
theorem ik_int64 : tyInt PP 2 = some .i64 := by kernel_rfl
@[reducible] def ty_int : Nat := 3
theorem sz_int : tySize PP 3 = some 1 := by kernel_rfl
theorem ze_int : zeroOf PP 3 = some (.int .i64 0) := by kernel_rfl
theorem one_int : tyOne PP 3 = true := by kernel_rfl
theorem ik_int : tyInt PP 3 = some .i64 := by kernel_rfl
@[reducible] def ty_bool : Nat := 4
theorem sz_bool : tySize PP 4 = some 1 := by kernel_rfl
theorem ze_bool : zeroOf PP 4 = some (.bool false) := by kernel_rfl
theorem one_bool : tyOne PP 4 = true := by kernel_rfl
theorem und_bool : PP.underlying 4 = some .bool := by kernel_rfl
@[reducible] def ty_uint8 : Nat := 5
theorem sz_uint8 : tySize PP 5 = some 1 := by kernel_rfl
theorem ze_uint8 : zeroOf PP 5 = some (.int .u8 0) := by kernel_rfl
theorem one_uint8 : tyOne PP 5 = true := by kernel_rfl
theorem ik_uint8 : tyInt PP 5 = some .u8 := by kernel_rfl
@[reducible] def ty_string : Nat := 9
theorem sz_string : tySize PP 9 = some 1 := by kernel_rfl
theorem ze_string : zeroOf PP 9 = some (.string ⟨#[]⟩) := by kernel_rfl
theorem one_string : tyOne PP 9 = true := by kernel_rfl
theorem str_string : tyStr PP 9 = true := by kernel_rfl
@[reducible] def ty_sl_api_Token : Nat := 23
theorem sz_sl_api_Token : tySize PP 23 = some 1 := by kernel_rfl
theorem ze_sl_api_Token : zeroOf PP 23 = some (.slice none 0 0) := by kernel_rfl
theorem one_sl_api_Token : tyOne PP 23 = true := by kernel_rfl
theorem el_sl_api_Token : tyElem PP 23 = some (33, 3, 32) := by kernel_rfl
@[reducible] def ty_api_Errno : Nat := 24
theorem sz_api_Errno : tySize PP 24 = some 1 := by kernel_rfl
theorem ze_api_Errno : zeroOf PP 24 = some (.int .i64 0) := by kernel_rfl
theorem one_api_Errno : tyOne PP 24 = true := by kernel_rfl
theorem ik_api_Errno : tyInt PP 24 = some .i64 := by kernel_rfl
@[reducible] def ty_uint16 : Nat := 30
theorem sz_uint16 : tySize PP 30 = some 1 := by kernel_rfl
theorem ze_uint16 : zeroOf PP 30 = some (.int .u16 0) := by kernel_rfl
theorem one_uint16 : tyOne PP 30 = true := by kernel_rfl
theorem ik_uint16 : tyInt PP 30 = some .u16 := by kernel_rfl
@[reducible] def ty_sl_uint8 : Nat := 31
theorem sz_sl_uint8 : tySize PP 31 = some 1 := by kernel_rfl
theorem ze_sl_uint8 : zeroOf PP 31 = some (.slice none 0 0) := by kernel_rfl
theorem one_sl_uint8 : tyOne PP 31 = true := by kernel_rfl
theorem el_sl_uint8 : tyElem PP 31 = some (5, 1, 1) := by kernel_rfl
@[reducible] def ty_api_Token : Nat := 33
theorem sz_api_Token : tySize PP 33 = some 3 := by kernel_rfl
theorem ze_api_Token : zeroOf PP 33 = some (.agg #[.int .i64 0, .string ⟨#[]⟩, .int .i64 0]) := by kernel_rfl
theorem agg_api_Token : tyAgg PP 33 = some 3 := by kernel_rfl
theorem fl_api_Token : tyFlat PP 33 = some [0, 1, 0] := by kernel_rfl
theorem fo_api_Token_0 : fieldOff PP 33 0 = some 0 := by kernel_rfl
theorem fi_api_Token_0 : fieldIn PP 33 0 = some (0, none) := by kernel_rfl
theorem fo_api_Token_1 : fieldOff PP 33 1 = some 1 := by kernel_rfl
theorem fi_api_Token_1 : fieldIn PP 33 1 = some (1, none) := by kernel_rfl
theorem fo_api_Token_2 : fieldOff PP 33 2 = some 2 := by kernel_rfl
theorem fi_api_Token_2 : fieldIn PP 33 2 = some (2, none) := by kernel_rfl
theorem pl_api_Token : structPlaces PP 33 = some [(0, 1), (1, 1), (2, 1)] := by kernel_rfl
@[reducible] def ty_p_scan_scanner : Nat := 38
theorem sz_p_scan_scanner : tySize PP 38 = some 1 := by kernel_rfl
theorem ze_p_scan_scanner : zeroOf PP 38 = some (.pointer none) := by kernel_rfl
theorem one_p_scan_scanner : tyOne PP 38 = true := by kernel_rfl
@[reducible] def ty_scan_scanner : Nat := 42
theorem sz_scan_scanner : tySize PP 42 = some 4 := by kernel_rfl
theorem ze_scan_scanner : zeroOf PP 42 = some (.agg #[.string ⟨#[]⟩, .int .i64 0, .slice none 0 0, .slice none 0 0]) := by kernel_rfl
theorem agg_scan_scanner : tyAgg PP 42 = some 4 := by kernel_rfl
theorem fo_scan_scanner_0 : fieldOff PP 42 0 = some 0 := by kernel_rfl
theorem fi_scan_scanner_0 : fieldIn PP 42 0 = some (0, none) := by kernel_rfl
theorem fo_scan_scanner_1 : fieldOff PP 42 1 = some 1 := by kernel_rfl
theorem fi_scan_scanner_1 : fieldIn PP 42 1 = some (1, none) := by kernel_rfl
theorem fo_scan_scanner_2 : fieldOff PP 42 2 = some 2 := by kernel_rfl
theorem fi_scan_scanner_2 : fieldIn PP 42 2 = some (2, none) := by kernel_rfl
theorem fo_scan_scanner_3 : fieldOff PP 42 3 = some 3 := by kernel_rfl
theorem fi_scan_scanner_3 : fieldIn PP 42 3 = some (3, none) := by kernel_rfl
theorem pl_scan_scanner : structPlaces PP 42 = some [(0, 1), (1, 1), (2, 1), (3, 1)] := by kernel_rfl
@[reducible] def ty_p_strings_Builder : Nat := 45
theorem sz_p_strings_Builder : tySize PP 45 = some 1 := by kernel_rfl
theorem ze_p_strings_Builder : zeroOf PP 45 = some (.pointer none) := by kernel_rfl
theorem one_p_strings_Builder : tyOne PP 45 = true := by kernel_rfl
theorem pt_p_strings_Builder : tyPtr PP 45 = true := by kernel_rfl
@[reducible] def ty_strings_Builder : Nat := 47
theorem sz_strings_Builder : tySize PP 47 = some 2 := by kernel_rfl
theorem ze_strings_Builder : zeroOf PP 47 = some (.agg #[.pointer none, .slice none 0 0]) := by kernel_rfl
theorem agg_strings_Builder : tyAgg PP 47 = some 2 := by kernel_rfl
theorem fo_strings_Builder_0 : fieldOff PP 47 0 = some 0 := by kernel_rfl
theorem fi_strings_Builder_0 : fieldIn PP 47 0 = some (0, none) := by kernel_rfl
theorem fo_strings_Builder_1 : fieldOff PP 47 1 = some 1 := by kernel_rfl
theorem fi_strings_Builder_1 : fieldIn PP 47 1 = some (1, none) := by kernel_rfl
theorem pl_strings_Builder : structPlaces PP 47 = some [(0, 1), (1, 1)] := by kernel_rfl
@[reducible] def ty_error : Nat := 49
theorem sz_error : tySize PP 49 = some 1 := by kernel_rfl
theorem ze_error : zeroOf PP 49 = some (.nilIface) := by kernel_rfl
theorem one_error : tyOne PP 49 = true := by kernel_rfl
theorem if_error : PP.isIface 49 = true := by kernel_rfl
@[reducible] def ty_p_uint8 : Nat := 58
theorem sz_p_uint8 : tySize PP 58 = some 1 := by kernel_rfl
theorem ze_p_uint8 : zeroOf PP 58 = some (.pointer none) := by kernel_rfl
theorem one_p_uint8 : tyOne PP 58 = true := by kernel_rfl
@[reducible] def ty_func_uint8_bool : Nat := 60
theorem sz_func_uint8_bool : tySize PP 60 = some 1 := by kernel_rfl
theorem ze_func_uint8_bool : zeroOf PP 60 = some (.nilFunc) := by kernel_rfl
theorem one_func_uint8_bool : tyOne PP 60 = true := by kernel_rfl
@[reducible] def ty_27_string : Nat := 64
theorem sz_27_string : tySize PP 64 = some 27 := by kernel_rfl
theorem ze_27_string : zeroOf PP 64 = some (.agg #[.string ⟨#[]⟩, .string ⟨#[]⟩, .string ⟨#[]⟩, .string ⟨#[]⟩, .string ⟨#[]⟩, .string ⟨#[]⟩, .string ⟨#[]⟩, .string ⟨#[]⟩, .string ⟨#[]⟩, .string ⟨#[]⟩, .string ⟨#[]⟩, .string ⟨#[]⟩, .string ⟨#[]⟩, .string ⟨#[]⟩, .string ⟨#[]⟩, .string ⟨#[]⟩, .string ⟨#[]⟩, .string ⟨#[]⟩, .string ⟨#[]⟩, .string ⟨#[]⟩, .string ⟨#[]⟩, .string ⟨#[]⟩, .string ⟨#[]⟩, .string ⟨#[]⟩, .string ⟨#[]⟩, .string ⟨#[]⟩, .string ⟨#[]⟩]) := by kernel_rfl
theorem agg_27_string : tyAgg PP 64 = some 27 := by kernel_rfl
theorem ar_27_string : tyArr1 PP 64 = some 27 := by kernel_rfl
@[reducible] def ty_unsafe_Pointer : Nat := 68
theorem sz_unsafe_Pointer : tySize PP 68 = some 1 := by kernel_rfl
theorem ze_unsafe_Pointer : zeroOf PP 68 = some (.pointer none) := by kernel_rfl
theorem one_unsafe_Pointer : tyOne PP 68 = true := by kernel_rfl
@[reducible] def ty_uint64 : Nat := 71
theorem sz_uint64 : tySize PP 71 = some 1 := by kernel_rfl
theorem ze_uint64 : zeroOf PP 71 = some (.int .u64 0) := by kernel_rfl
theorem one_uint64 : tyOne PP 71 = true := by kernel_rfl
theorem ik_uint64 : tyInt PP 71 = some .u64 := by kernel_rfl
@[reducible] def ty_strconv_Error : Nat := 72
theorem sz_strconv_Error : tySize PP 72 = some 1 := by kernel_rfl
theorem ze_strconv_Error : zeroOf PP 72 = some (.int .i64 0) := by kernel_rfl
theorem one_strconv_Error : tyOne PP 72 = true := by kernel_rfl
theorem ik_strconv_Error : tyInt PP 72 = some .i64 := by kernel_rfl
theorem con_strconv_Error : tyConc PP 72 = true := by kernel_rfl
@[reducible] def ty_p_strconv_NumError : Nat := 76
theorem sz_p_strconv_NumError : tySize PP 76 = some 1 := by kernel_rfl
theorem ze_p_strconv_NumError : zeroOf PP 76 = some (.pointer none) := by kernel_rfl
theorem one_p_strconv_NumError : tyOne PP 76 = true := by kernel_rfl
theorem con_p_strconv_NumError : tyConc PP 76 = true := by kernel_rfl
@[reducible] def ty_strconv_NumError : Nat := 81
theorem sz_strconv_NumError : tySize PP 81 = some 3 := by kernel_rfl
theorem ze_strconv_NumError : zeroOf PP 81 = some (.agg #[.string ⟨#[]⟩, .string ⟨#[]⟩, .nilIface]) := by kernel_rfl
theorem agg_strconv_NumError : tyAgg PP 81 = some 3 := by kernel_rfl
theorem fo_strconv_NumError_0 : fieldOff PP 81 0 = some 0 := by kernel_rfl
theorem fi_strconv_NumError_0 : fieldIn PP 81 0 = some (0, none) := by kernel_rfl
theorem fo_strconv_NumError_1 : fieldOff PP 81 1 = some 1 := by kernel_rfl
theorem fi_strconv_NumError_1 : fieldIn PP 81 1 = some (1, none) := by kernel_rfl
theorem fo_strconv_NumError_2 : fieldOff PP 81 2 = some 2 := by kernel_rfl
theorem fi_strconv_NumError_2 : fieldIn PP 81 2 = some (2, none) := by kernel_rfl
theorem pl_strconv_NumError : structPlaces PP 81 = some [(0, 1), (1, 1), (2, 1)] := by kernel_rfl
end Go.Rk
