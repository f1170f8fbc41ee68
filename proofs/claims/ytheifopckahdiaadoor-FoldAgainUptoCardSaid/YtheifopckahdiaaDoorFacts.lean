/- Closed facts of the program: its types and its functions by name. Conditions: none. -/
import Derived.Test.YtheifopckahdiaaDoorMore
import Derived.Test.YtheifopckahdiaaDoorNest
import Derived.Test.YtheifopckahdiaaDoorProg
import Derived.KernelRfl
namespace Go.Rk
open Go
@[reducible] noncomputable def PP : Program := Go.Proofs.Tryd.prog
theorem mix : PP.follows .mixedOrders = true := by kernel_rfl
@[reducible] def fn_l07_FoldValue : Nat := 3
theorem go_l07_FoldValue : goFn PP 3 = true := by kernel_rfl
theorem func_l07_FoldValue : PP.funcs[3]? = some Go.Proofs.Tryd.f3 := Go.Proofs.Tryd.func3
@[reducible] def fn_l07_FoldArithmetic : Nat := 4
theorem go_l07_FoldArithmetic : goFn PP 4 = true := by kernel_rfl
theorem func_l07_FoldArithmetic : PP.funcs[4]? = some Go.Proofs.Tryd.f4 := Go.Proofs.Tryd.func4
@[reducible] def fn_l07_FoldAgain : Nat := 5
theorem go_l07_FoldAgain : goFn PP 5 = true := by kernel_rfl
theorem func_l07_FoldAgain : PP.funcs[5]? = some Go.Proofs.Tryd.f5 := Go.Proofs.Tryd.func5
@[reducible] def fn_l07_FoldConstants : Nat := 6
theorem go_l07_FoldConstants : goFn PP 6 = true := by kernel_rfl
theorem func_l07_FoldConstants : PP.funcs[6]? = some Go.Proofs.Tryd.f6 := Go.Proofs.Tryd.func6
@[reducible] def fn_l07_FoldKeepsValue : Nat := 7
theorem go_l07_FoldKeepsValue : goFn PP 7 = true := by kernel_rfl
theorem func_l07_FoldKeepsValue : PP.funcs[7]? = some Go.Proofs.Tryd.f7 := Go.Proofs.Tryd.func7
@[reducible] def fn_l03_SyntaxDepth : Nat := 8
theorem go_l03_SyntaxDepth : goFn PP 8 = true := by kernel_rfl
theorem func_l03_SyntaxDepth : PP.funcs[8]? = some Go.Proofs.Tryd.f8 := Go.Proofs.Tryd.func8
@[reducible] def fn_l03_SyntaxEqual : Nat := 9
theorem go_l03_SyntaxEqual : goFn PP 9 = true := by kernel_rfl
theorem func_l03_SyntaxEqual : PP.funcs[9]? = some Go.Proofs.Tryd.f9 := Go.Proofs.Tryd.func9
@[reducible] def fn_l03_SyntaxStrip : Nat := 10
theorem go_l03_SyntaxStrip : goFn PP 10 = true := by kernel_rfl
theorem func_l03_SyntaxStrip : PP.funcs[10]? = some Go.Proofs.Tryd.f10 := Go.Proofs.Tryd.func10
@[reducible] def fn_l03_SyntaxWalk : Nat := 11
theorem go_l03_SyntaxWalk : goFn PP 11 = true := by kernel_rfl
theorem func_l03_SyntaxWalk : PP.funcs[11]? = some Go.Proofs.Tryd.f11 := Go.Proofs.Tryd.func11
@[reducible] def fn_l07_awake : Nat := 12
theorem go_l07_awake : goFn PP 12 = true := by kernel_rfl
theorem func_l07_awake : PP.funcs[12]? = some Go.Proofs.Tryd.f12 := Go.Proofs.Tryd.func12
@[reducible] def fn_r03_Count : Nat := 13
theorem go_r03_Count : goFn PP 13 = true := by kernel_rfl
theorem func_r03_Count : PP.funcs[13]? = some Go.Proofs.Tryd.f13 := Go.Proofs.Tryd.func13
@[reducible] def fn_fold_Value : Nat := 14
theorem go_fold_Value : goFn PP 14 = true := by kernel_rfl
theorem func_fold_Value : PP.funcs[14]? = some Go.Proofs.Tryd.f14 := Go.Proofs.Tryd.func14
@[reducible] def fn_r03_Copy : Nat := 15
theorem go_r03_Copy : goFn PP 15 = true := by kernel_rfl
theorem func_r03_Copy : PP.funcs[15]? = some Go.Proofs.Tryd.f15 := Go.Proofs.Tryd.func15
@[reducible] def fn_r07_Value : Nat := 16
theorem go_r07_Value : goFn PP 16 = true := by kernel_rfl
theorem func_r07_Value : PP.funcs[16]? = some Go.Proofs.Tryd.f16 := Go.Proofs.Tryd.func16
@[reducible] def fn_l07_binary : Nat := 17
theorem go_l07_binary : goFn PP 17 = true := by kernel_rfl
theorem func_l07_binary : PP.funcs[17]? = some Go.Proofs.Tryd.f17 := Go.Proofs.Tryd.func17
@[reducible] def fn_l07_number : Nat := 18
theorem go_l07_number : goFn PP 18 = true := by kernel_rfl
theorem func_l07_number : PP.funcs[18]? = some Go.Proofs.Tryd.f18 := Go.Proofs.Tryd.func18
@[reducible] def fn_fold_File : Nat := 19
theorem go_fold_File : goFn PP 19 = true := by kernel_rfl
theorem func_fold_File : PP.funcs[19]? = some Go.Proofs.Tryd.f19 := Go.Proofs.Tryd.func19
@[reducible] def fn_r03_Valid : Nat := 20
theorem go_r03_Valid : goFn PP 20 = true := by kernel_rfl
theorem func_r03_Valid : PP.funcs[20]? = some Go.Proofs.Tryd.f20 := Go.Proofs.Tryd.func20
@[reducible] def fn_r03_Same : Nat := 21
theorem go_r03_Same : goFn PP 21 = true := by kernel_rfl
theorem func_r03_Same : PP.funcs[21]? = some Go.Proofs.Tryd.f21 := Go.Proofs.Tryd.func21
@[reducible] def fn_r03_List : Nat := 22
theorem go_r03_List : goFn PP 22 = true := by kernel_rfl
theorem func_r03_List : PP.funcs[22]? = some Go.Proofs.Tryd.f22 := Go.Proofs.Tryd.func22
@[reducible] def fn_l07_printing : Nat := 23
theorem go_l07_printing : goFn PP 23 = true := by kernel_rfl
theorem func_l07_printing : PP.funcs[23]? = some Go.Proofs.Tryd.f23 := Go.Proofs.Tryd.func23
@[reducible] def fn_l07_printed : Nat := 24
theorem go_l07_printed : goFn PP 24 = true := by kernel_rfl
theorem func_l07_printed : PP.funcs[24]? = some Go.Proofs.Tryd.f24 := Go.Proofs.Tryd.func24
@[reducible] def fn_l03_awake : Nat := 25
theorem go_l03_awake : goFn PP 25 = true := by kernel_rfl
theorem func_l03_awake : PP.funcs[25]? = some Go.Proofs.Tryd.f25 := Go.Proofs.Tryd.func25
@[reducible] def fn_l03_sample : Nat := 26
theorem go_l03_sample : goFn PP 26 = true := by kernel_rfl
theorem func_l03_sample : PP.funcs[26]? = some Go.Proofs.Tryd.f26 := Go.Proofs.Tryd.func26
@[reducible] def fn_syntax_Valid : Nat := 27
theorem go_syntax_Valid : goFn PP 27 = true := by kernel_rfl
theorem func_syntax_Valid : PP.funcs[27]? = some Go.Proofs.Tryd.f27 := Go.Proofs.Tryd.func27
@[reducible] def fn_l03_great : Nat := 28
theorem go_l03_great : goFn PP 28 = true := by kernel_rfl
theorem func_l03_great : PP.funcs[28]? = some Go.Proofs.Tryd.f28 := Go.Proofs.Tryd.func28
@[reducible] def fn_syntax_Equal : Nat := 29
theorem go_syntax_Equal : goFn PP 29 = true := by kernel_rfl
theorem func_syntax_Equal : PP.funcs[29]? = some Go.Proofs.Tryd.f29 := Go.Proofs.Tryd.func29
@[reducible] def fn_r03_Equal : Nat := 30
theorem go_r03_Equal : goFn PP 30 = true := by kernel_rfl
theorem func_r03_Equal : PP.funcs[30]? = some Go.Proofs.Tryd.f30 := Go.Proofs.Tryd.func30
@[reducible] def fn_syntax_Strip : Nat := 31
theorem go_syntax_Strip : goFn PP 31 = true := by kernel_rfl
theorem func_syntax_Strip : PP.funcs[31]? = some Go.Proofs.Tryd.f31 := Go.Proofs.Tryd.func31
@[reducible] def fn_r03_Strip : Nat := 32
theorem go_r03_Strip : goFn PP 32 = true := by kernel_rfl
theorem func_r03_Strip : PP.funcs[32]? = some Go.Proofs.Tryd.f32 := Go.Proofs.Tryd.func32
@[reducible] def fn_syntax_Walk : Nat := 33
theorem go_syntax_Walk : goFn PP 33 = true := by kernel_rfl
theorem func_syntax_Walk : PP.funcs[33]? = some Go.Proofs.Tryd.f33 := Go.Proofs.Tryd.func33
@[reducible] def fn_syntax_Count : Nat := 34
theorem go_syntax_Count : goFn PP 34 = true := by kernel_rfl
theorem func_syntax_Count : PP.funcs[34]? = some Go.Proofs.Tryd.f34 := Go.Proofs.Tryd.func34
@[reducible] def fn_fold_value : Nat := 35
theorem go_fold_value : goFn PP 35 = true := by kernel_rfl
theorem func_fold_value : PP.funcs[35]? = some Go.Proofs.Tryd.f35 := Go.Proofs.Tryd.func35
@[reducible] def fn_r03_IsExpr : Nat := 36
theorem go_r03_IsExpr : goFn PP 36 = true := by kernel_rfl
theorem func_r03_IsExpr : PP.funcs[36]? = some Go.Proofs.Tryd.f36 := Go.Proofs.Tryd.func36
@[reducible] def fn_r07_constant : Nat := 37
theorem go_r07_constant : goFn PP 37 = true := by kernel_rfl
theorem func_r07_constant : PP.funcs[37]? = some Go.Proofs.Tryd.f37 := Go.Proofs.Tryd.func37
@[reducible] def fn_fold_fold : Nat := 38
theorem go_fold_fold : goFn PP 38 = true := by kernel_rfl
theorem func_fold_fold : PP.funcs[38]? = some Go.Proofs.Tryd.f38 := Go.Proofs.Tryd.func38
@[reducible] def fn_r03_Depth : Nat := 39
theorem go_r03_Depth : goFn PP 39 = true := by kernel_rfl
theorem func_r03_Depth : PP.funcs[39]? = some Go.Proofs.Tryd.f39 := Go.Proofs.Tryd.func39
@[reducible] def fn_r03_isDecl : Nat := 40
theorem go_r03_isDecl : goFn PP 40 = true := by kernel_rfl
theorem func_r03_isDecl : PP.funcs[40]? = some Go.Proofs.Tryd.f40 := Go.Proofs.Tryd.func40
@[reducible] def fn_syntax_Print : Nat := 41
theorem go_syntax_Print : goFn PP 41 = true := by kernel_rfl
theorem func_syntax_Print : PP.funcs[41]? = some Go.Proofs.Tryd.f41 := Go.Proofs.Tryd.func41
@[reducible] def fn_l03_name : Nat := 42
theorem go_l03_name : goFn PP 42 = true := by kernel_rfl
theorem func_l03_name : PP.funcs[42]? = some Go.Proofs.Tryd.f42 := Go.Proofs.Tryd.func42
@[reducible] def fn_l03_typed : Nat := 43
theorem go_l03_typed : goFn PP 43 = true := by kernel_rfl
theorem func_l03_typed : PP.funcs[43]? = some Go.Proofs.Tryd.f43 := Go.Proofs.Tryd.func43
@[reducible] def fn_syntax_permitted : Nat := 44
theorem go_syntax_permitted : goFn PP 44 = true := by kernel_rfl
theorem func_syntax_permitted : PP.funcs[44]? = some Go.Proofs.Tryd.f44 := Go.Proofs.Tryd.func44
@[reducible] def fn_r03_counts : Nat := 45
theorem go_r03_counts : goFn PP 45 = true := by kernel_rfl
theorem func_r03_counts : PP.funcs[45]? = some Go.Proofs.Tryd.f45 := Go.Proofs.Tryd.func45
@[reducible] def fn_syntax_Walk_1 : Nat := 46
theorem go_syntax_Walk_1 : goFn PP 46 = true := by kernel_rfl
theorem func_syntax_Walk_1 : PP.funcs[46]? = some Go.Proofs.Tryd.f46 := Go.Proofs.Tryd.func46
@[reducible] def fn_syntax_Walk_1_1 : Nat := 47
theorem go_syntax_Walk_1_1 : goFn PP 47 = true := by kernel_rfl
theorem func_syntax_Walk_1_1 : PP.funcs[47]? = some Go.Proofs.Tryd.f47 := Go.Proofs.Tryd.func47
@[reducible] def fn_fold_binary : Nat := 48
theorem go_fold_binary : goFn PP 48 = true := by kernel_rfl
theorem func_fold_binary : PP.funcs[48]? = some Go.Proofs.Tryd.f48 := Go.Proofs.Tryd.func48
@[reducible] def fn_r02_Name : Nat := 49
theorem go_r02_Name : goFn PP 49 = true := by kernel_rfl
theorem func_r02_Name : PP.funcs[49]? = some Go.Proofs.Tryd.f49 := Go.Proofs.Tryd.func49
@[reducible] def fn_r03_expressions : Nat := 50
theorem go_r03_expressions : goFn PP 50 = true := by kernel_rfl
theorem func_r03_expressions : PP.funcs[50]? = some Go.Proofs.Tryd.f50 := Go.Proofs.Tryd.func50
@[reducible] def fn_r03_BinaryOp : Nat := 51
theorem go_r03_BinaryOp : goFn PP 51 = true := by kernel_rfl
theorem func_r03_BinaryOp : PP.funcs[51]? = some Go.Proofs.Tryd.f51 := Go.Proofs.Tryd.func51
@[reducible] def fn_r03_isBlock : Nat := 52
theorem go_r03_isBlock : goFn PP 52 = true := by kernel_rfl
theorem func_r03_isBlock : PP.funcs[52]? = some Go.Proofs.Tryd.f52 := Go.Proofs.Tryd.func52
@[reducible] def fn_r07_logic : Nat := 53
theorem go_r07_logic : goFn PP 53 = true := by kernel_rfl
theorem func_r07_logic : PP.funcs[53]? = some Go.Proofs.Tryd.f53 := Go.Proofs.Tryd.func53
@[reducible] def fn_r07_arithmetic : Nat := 54
theorem go_r07_arithmetic : goFn PP 54 = true := by kernel_rfl
theorem func_r07_arithmetic : PP.funcs[54]? = some Go.Proofs.Tryd.f54 := Go.Proofs.Tryd.func54
@[reducible] def fn_fold_replace : Nat := 55
theorem go_fold_replace : goFn PP 55 = true := by kernel_rfl
theorem func_fold_replace : PP.funcs[55]? = some Go.Proofs.Tryd.f55 := Go.Proofs.Tryd.func55
@[reducible] def fn_fold_each_api_Node : Nat := 56
theorem go_fold_each_api_Node : goFn PP 56 = true := by kernel_rfl
theorem func_fold_each_api_Node : PP.funcs[56]? = some Go.Proofs.Tryd.f56 := Go.Proofs.Tryd.func56
@[reducible] def fn_r03_fields : Nat := 57
theorem go_r03_fields : goFn PP 57 = true := by kernel_rfl
theorem func_r03_fields : PP.funcs[57]? = some Go.Proofs.Tryd.f57 := Go.Proofs.Tryd.func57
@[reducible] def fn_r03_isVar : Nat := 58
theorem go_r03_isVar : goFn PP 58 = true := by kernel_rfl
theorem func_r03_isVar : PP.funcs[58]? = some Go.Proofs.Tryd.f58 := Go.Proofs.Tryd.func58
@[reducible] def fn_r03_isNone : Nat := 59
theorem go_r03_isNone : goFn PP 59 = true := by kernel_rfl
theorem func_r03_isNone : PP.funcs[59]? = some Go.Proofs.Tryd.f59 := Go.Proofs.Tryd.func59
@[reducible] def fn_r03_IsType : Nat := 60
theorem go_r03_IsType : goFn PP 60 = true := by kernel_rfl
theorem func_r03_IsType : PP.funcs[60]? = some Go.Proofs.Tryd.f60 := Go.Proofs.Tryd.func60
@[reducible] def fn_syntax_printer_stmt : Nat := 61
theorem go_syntax_printer_stmt : goFn PP 61 = true := by kernel_rfl
theorem func_syntax_printer_stmt : PP.funcs[61]? = some Go.Proofs.Tryd.f61 := Go.Proofs.Tryd.func61
@[reducible] def fn_syntax_printer_write : Nat := 62
theorem go_syntax_printer_write : goFn PP 62 = true := by kernel_rfl
theorem func_syntax_printer_write : PP.funcs[62]? = some Go.Proofs.Tryd.f62 := Go.Proofs.Tryd.func62
@[reducible] def fn_strings_Builder_String : Nat := 63
theorem go_strings_Builder_String : goFn PP 63 = true := by kernel_rfl
theorem func_strings_Builder_String : PP.funcs[63]? = some Go.Proofs.Tryd.f63 := Go.Proofs.Tryd.func63
@[reducible] def fn_syntax_text : Nat := 64
theorem go_syntax_text : goFn PP 64 = true := by kernel_rfl
theorem func_syntax_text : PP.funcs[64]? = some Go.Proofs.Tryd.f64 := Go.Proofs.Tryd.func64
@[reducible] def fn_syntax_form : Nat := 65
theorem go_syntax_form : goFn PP 65 = true := by kernel_rfl
theorem func_syntax_form : PP.funcs[65]? = some Go.Proofs.Tryd.f65 := Go.Proofs.Tryd.func65
@[reducible] def fn_fold_truth : Nat := 66
theorem go_fold_truth : goFn PP 66 = true := by kernel_rfl
theorem func_fold_truth : PP.funcs[66]? = some Go.Proofs.Tryd.f66 := Go.Proofs.Tryd.func66
@[reducible] def fn_r02_letter : Nat := 67
theorem go_r02_letter : goFn PP 67 = true := by kernel_rfl
theorem func_r02_letter : PP.funcs[67]? = some Go.Proofs.Tryd.f67 := Go.Proofs.Tryd.func67
@[reducible] def fn_r02_Keyword : Nat := 68
theorem go_r02_Keyword : goFn PP 68 = true := by kernel_rfl
theorem func_r02_Keyword : PP.funcs[68]? = some Go.Proofs.Tryd.f68 := Go.Proofs.Tryd.func68
@[reducible] def fn_r02_digit : Nat := 69
theorem go_r02_digit : goFn PP 69 = true := by kernel_rfl
theorem func_r02_digit : PP.funcs[69]? = some Go.Proofs.Tryd.f69 := Go.Proofs.Tryd.func69
@[reducible] def fn_r03_isStmt : Nat := 70
theorem go_r03_isStmt : goFn PP 70 = true := by kernel_rfl
theorem func_r03_isStmt : PP.funcs[70]? = some Go.Proofs.Tryd.f70 := Go.Proofs.Tryd.func70
@[reducible] def fn_r07_boolean : Nat := 71
theorem go_r07_boolean : goFn PP 71 = true := by kernel_rfl
theorem func_r07_boolean : PP.funcs[71]? = some Go.Proofs.Tryd.f71 := Go.Proofs.Tryd.func71
@[reducible] def fn_r03_typeName : Nat := 72
theorem go_r03_typeName : goFn PP 72 = true := by kernel_rfl
theorem func_r03_typeName : PP.funcs[72]? = some Go.Proofs.Tryd.f72 := Go.Proofs.Tryd.func72
@[reducible] def fn_syntax_printer_declaration : Nat := 73
theorem go_syntax_printer_declaration : goFn PP 73 = true := by kernel_rfl
theorem func_syntax_printer_declaration : PP.funcs[73]? = some Go.Proofs.Tryd.f73 := Go.Proofs.Tryd.func73
@[reducible] def fn_syntax_printer_compound : Nat := 74
theorem go_syntax_printer_compound : goFn PP 74 = true := by kernel_rfl
theorem func_syntax_printer_compound : PP.funcs[74]? = some Go.Proofs.Tryd.f74 := Go.Proofs.Tryd.func74
@[reducible] def fn_syntax_printer_simple : Nat := 75
theorem go_syntax_printer_simple : goFn PP 75 = true := by kernel_rfl
theorem func_syntax_printer_simple : PP.funcs[75]? = some Go.Proofs.Tryd.f75 := Go.Proofs.Tryd.func75
@[reducible] def fn_strings_Builder_WriteString : Nat := 76
theorem go_strings_Builder_WriteString : goFn PP 76 = true := by kernel_rfl
theorem func_strings_Builder_WriteString : PP.funcs[76]? = some Go.Proofs.Tryd.f76 := Go.Proofs.Tryd.func76
@[reducible] def fn_syntax_name : Nat := 77
theorem go_syntax_name : goFn PP 77 = true := by kernel_rfl
theorem func_syntax_name : PP.funcs[77]? = some Go.Proofs.Tryd.f77 := Go.Proofs.Tryd.func77
@[reducible] def fn_syntax_among : Nat := 78
theorem go_syntax_among : goFn PP 78 = true := by kernel_rfl
theorem func_syntax_among : PP.funcs[78]? = some Go.Proofs.Tryd.f78 := Go.Proofs.Tryd.func78
@[reducible] def fn_syntax_every : Nat := 79
theorem go_syntax_every : goFn PP 79 = true := by kernel_rfl
theorem func_syntax_every : PP.funcs[79]? = some Go.Proofs.Tryd.f79 := Go.Proofs.Tryd.func79
@[reducible] def fn_syntax_kids : Nat := 80
theorem go_syntax_kids : goFn PP 80 = true := by kernel_rfl
theorem func_syntax_kids : PP.funcs[80]? = some Go.Proofs.Tryd.f80 := Go.Proofs.Tryd.func80
@[reducible] def fn_syntax_typed : Nat := 81
theorem go_syntax_typed : goFn PP 81 = true := by kernel_rfl
theorem func_syntax_typed : PP.funcs[81]? = some Go.Proofs.Tryd.f81 := Go.Proofs.Tryd.func81
@[reducible] def fn_syntax_either : Nat := 82
theorem go_syntax_either : goFn PP 82 = true := by kernel_rfl
theorem func_syntax_either : PP.funcs[82]? = some Go.Proofs.Tryd.f82 := Go.Proofs.Tryd.func82
@[reducible] def fn_syntax_expression : Nat := 83
theorem go_syntax_expression : goFn PP 83 = true := by kernel_rfl
theorem func_syntax_expression : PP.funcs[83]? = some Go.Proofs.Tryd.f83 := Go.Proofs.Tryd.func83
@[reducible] def fn_syntax_statement : Nat := 84
theorem go_syntax_statement : goFn PP 84 = true := by kernel_rfl
theorem func_syntax_statement : PP.funcs[84]? = some Go.Proofs.Tryd.f84 := Go.Proofs.Tryd.func84
@[reducible] def fn_syntax_communication : Nat := 85
theorem go_syntax_communication : goFn PP 85 = true := by kernel_rfl
theorem func_syntax_communication : PP.funcs[85]? = some Go.Proofs.Tryd.f85 := Go.Proofs.Tryd.func85
@[reducible] def fn_r03_isIf : Nat := 86
theorem go_r03_isIf : goFn PP 86 = true := by kernel_rfl
theorem func_r03_isIf : PP.funcs[86]? = some Go.Proofs.Tryd.f86 := Go.Proofs.Tryd.func86
@[reducible] def fn_r03_isSelect : Nat := 87
theorem go_r03_isSelect : goFn PP 87 = true := by kernel_rfl
theorem func_r03_isSelect : PP.funcs[87]? = some Go.Proofs.Tryd.f87 := Go.Proofs.Tryd.func87
@[reducible] def fn_r03_kind : Nat := 88
theorem go_r03_kind : goFn PP 88 = true := by kernel_rfl
theorem func_r03_kind : PP.funcs[88]? = some Go.Proofs.Tryd.f88 := Go.Proofs.Tryd.func88
@[reducible] def fn_syntax_printer_lines : Nat := 89
theorem go_syntax_printer_lines : goFn PP 89 = true := by kernel_rfl
theorem func_syntax_printer_lines : PP.funcs[89]? = some Go.Proofs.Tryd.f89 := Go.Proofs.Tryd.func89
@[reducible] def fn_syntax_printer_line : Nat := 90
theorem go_syntax_printer_line : goFn PP 90 = true := by kernel_rfl
theorem func_syntax_printer_line : PP.funcs[90]? = some Go.Proofs.Tryd.f90 := Go.Proofs.Tryd.func90
@[reducible] def fn_syntax_printer_typ : Nat := 91
theorem go_syntax_printer_typ : goFn PP 91 = true := by kernel_rfl
theorem func_syntax_printer_typ : PP.funcs[91]? = some Go.Proofs.Tryd.f91 := Go.Proofs.Tryd.func91
@[reducible] def fn_syntax_printer_block : Nat := 92
theorem go_syntax_printer_block : goFn PP 92 = true := by kernel_rfl
theorem func_syntax_printer_block : PP.funcs[92]? = some Go.Proofs.Tryd.f92 := Go.Proofs.Tryd.func92
@[reducible] def fn_syntax_printer_expr : Nat := 93
theorem go_syntax_printer_expr : goFn PP 93 = true := by kernel_rfl
theorem func_syntax_printer_expr : PP.funcs[93]? = some Go.Proofs.Tryd.f93 := Go.Proofs.Tryd.func93
@[reducible] def fn_syntax_printer_pair : Nat := 94
theorem go_syntax_printer_pair : goFn PP 94 = true := by kernel_rfl
theorem func_syntax_printer_pair : PP.funcs[94]? = some Go.Proofs.Tryd.f94 := Go.Proofs.Tryd.func94
@[reducible] def fn_syntax_printer_list : Nat := 95
theorem go_syntax_printer_list : goFn PP 95 = true := by kernel_rfl
theorem func_syntax_printer_list : PP.funcs[95]? = some Go.Proofs.Tryd.f95 := Go.Proofs.Tryd.func95
@[reducible] def fn_strings_Builder_copyCheck : Nat := 96
theorem go_strings_Builder_copyCheck : goFn PP 96 = true := by kernel_rfl
theorem func_strings_Builder_copyCheck : PP.funcs[96]? = some Go.Proofs.Tryd.f96 := Go.Proofs.Tryd.func96
@[reducible] def fn_scan_Scan : Nat := 97
theorem go_scan_Scan : goFn PP 97 = true := by kernel_rfl
theorem func_scan_Scan : PP.funcs[97]? = some Go.Proofs.Tryd.f97 := Go.Proofs.Tryd.func97
@[reducible] def fn_syntax_among_1 : Nat := 98
theorem go_syntax_among_1 : goFn PP 98 = true := by kernel_rfl
theorem func_syntax_among_1 : PP.funcs[98]? = some Go.Proofs.Tryd.f98 := Go.Proofs.Tryd.func98
@[reducible] def fn_syntax_either_1 : Nat := 99
theorem go_syntax_either_1 : goFn PP 99 = true := by kernel_rfl
theorem func_syntax_either_1 : PP.funcs[99]? = some Go.Proofs.Tryd.f99 := Go.Proofs.Tryd.func99
@[reducible] def fn_r03_isComm : Nat := 100
theorem go_r03_isComm : goFn PP 100 = true := by kernel_rfl
theorem func_r03_isComm : PP.funcs[100]? = some Go.Proofs.Tryd.f100 := Go.Proofs.Tryd.func100
@[reducible] def fn_strings_Builder_WriteByte : Nat := 101
theorem go_strings_Builder_WriteByte : goFn PP 101 = true := by kernel_rfl
theorem func_strings_Builder_WriteByte : PP.funcs[101]? = some Go.Proofs.Tryd.f101 := Go.Proofs.Tryd.func101
@[reducible] def fn_syntax_printer_primary : Nat := 102
theorem go_syntax_printer_primary : goFn PP 102 = true := by kernel_rfl
theorem func_syntax_printer_primary : PP.funcs[102]? = some Go.Proofs.Tryd.f102 := Go.Proofs.Tryd.func102
@[reducible] def fn_syntax_printer_inner : Nat := 103
theorem go_syntax_printer_inner : goFn PP 103 = true := by kernel_rfl
theorem func_syntax_printer_inner : PP.funcs[103]? = some Go.Proofs.Tryd.f103 := Go.Proofs.Tryd.func103
@[reducible] def fn_strconv_Itoa : Nat := 104
theorem go_strconv_Itoa : goFn PP 104 = true := by kernel_rfl
theorem func_strconv_Itoa : PP.funcs[104]? = some Go.Proofs.Tryd.f104 := Go.Proofs.Tryd.func104
@[reducible] def fn_strconv_FormatBool : Nat := 105
theorem go_strconv_FormatBool : goFn PP 105 = true := by kernel_rfl
theorem func_strconv_FormatBool : PP.funcs[105]? = some Go.Proofs.Tryd.f105 := Go.Proofs.Tryd.func105
@[reducible] def fn_scan_all : Nat := 107
theorem go_scan_all : goFn PP 107 = true := by kernel_rfl
theorem func_scan_all : PP.funcs[107]? = some Go.Proofs.Tryd.f107 := Go.Proofs.Tryd.func107
@[reducible] def fn_scan_scanner_next : Nat := 110
theorem go_scan_scanner_next : goFn PP 110 = true := by kernel_rfl
theorem func_scan_scanner_next : PP.funcs[110]? = some Go.Proofs.Tryd.f110 := Go.Proofs.Tryd.func110
@[reducible] def fn_scan_scanner_newline : Nat := 112
theorem go_scan_scanner_newline : goFn PP 112 = true := by kernel_rfl
theorem func_scan_scanner_newline : PP.funcs[112]? = some Go.Proofs.Tryd.f112 := Go.Proofs.Tryd.func112
@[reducible] def fn_strings_HasPrefix : Nat := 113
theorem go_strings_HasPrefix : goFn PP 113 = true := by kernel_rfl
theorem func_strings_HasPrefix : PP.funcs[113]? = some Go.Proofs.Tryd.f113 := Go.Proofs.Tryd.func113
@[reducible] def fn_scan_scanner_run : Nat := 114
theorem go_scan_scanner_run : goFn PP 114 = true := by kernel_rfl
theorem func_scan_scanner_run : PP.funcs[114]? = some Go.Proofs.Tryd.f114 := Go.Proofs.Tryd.func114
@[reducible] def fn_scan_scanner_next_1 : Nat := 115
theorem go_scan_scanner_next_1 : goFn PP 115 = true := by kernel_rfl
theorem func_scan_scanner_next_1 : PP.funcs[115]? = some Go.Proofs.Tryd.f115 := Go.Proofs.Tryd.func115
@[reducible] def fn_scan_letter : Nat := 116
theorem go_scan_letter : goFn PP 116 = true := by kernel_rfl
theorem func_scan_letter : PP.funcs[116]? = some Go.Proofs.Tryd.f116 := Go.Proofs.Tryd.func116
@[reducible] def fn_scan_scanner_next_2 : Nat := 117
theorem go_scan_scanner_next_2 : goFn PP 117 = true := by kernel_rfl
theorem func_scan_scanner_next_2 : PP.funcs[117]? = some Go.Proofs.Tryd.f117 := Go.Proofs.Tryd.func117
@[reducible] def fn_scan_digit : Nat := 118
theorem go_scan_digit : goFn PP 118 = true := by kernel_rfl
theorem func_scan_digit : PP.funcs[118]? = some Go.Proofs.Tryd.f118 := Go.Proofs.Tryd.func118
@[reducible] def fn_scan_Keyword : Nat := 119
theorem go_scan_Keyword : goFn PP 119 = true := by kernel_rfl
theorem func_scan_Keyword : PP.funcs[119]? = some Go.Proofs.Tryd.f119 := Go.Proofs.Tryd.func119
@[reducible] def fn_scan_scanner_put : Nat := 120
theorem go_scan_scanner_put : goFn PP 120 = true := by kernel_rfl
theorem func_scan_scanner_put : PP.funcs[120]? = some Go.Proofs.Tryd.f120 := Go.Proofs.Tryd.func120
@[reducible] def fn_strconv_ParseInt : Nat := 121
theorem go_strconv_ParseInt : goFn PP 121 = true := by kernel_rfl
theorem func_strconv_ParseInt : PP.funcs[121]? = some Go.Proofs.Tryd.f121 := Go.Proofs.Tryd.func121
@[reducible] def fn_scan_ending : Nat := 126
theorem go_scan_ending : goFn PP 126 = true := by kernel_rfl
theorem func_scan_ending : PP.funcs[126]? = some Go.Proofs.Tryd.f126 := Go.Proofs.Tryd.func126
@[reducible] def fn_internal_stringslite_HasPrefix : Nat := 127
theorem go_internal_stringslite_HasPrefix : goFn PP 127 = true := by kernel_rfl
theorem func_internal_stringslite_HasPrefix : PP.funcs[127]? = some Go.Proofs.Tryd.f127 := Go.Proofs.Tryd.func127
@[reducible] def fn_strconv_toError : Nat := 129
theorem go_strconv_toError : goFn PP 129 = true := by kernel_rfl
theorem func_strconv_toError : PP.funcs[129]? = some Go.Proofs.Tryd.f129 := Go.Proofs.Tryd.func129
@[reducible] def fn_strconv_syntaxError : Nat := 136
theorem go_strconv_syntaxError : goFn PP 136 = true := by kernel_rfl
theorem func_strconv_syntaxError : PP.funcs[136]? = some Go.Proofs.Tryd.f136 := Go.Proofs.Tryd.func136
@[reducible] def fn_strconv_rangeError : Nat := 137
theorem go_strconv_rangeError : goFn PP 137 = true := by kernel_rfl
theorem func_strconv_rangeError : PP.funcs[137]? = some Go.Proofs.Tryd.f137 := Go.Proofs.Tryd.func137
@[reducible] def fn_strconv_baseError : Nat := 138
theorem go_strconv_baseError : goFn PP 138 = true := by kernel_rfl
theorem func_strconv_baseError : PP.funcs[138]? = some Go.Proofs.Tryd.f138 := Go.Proofs.Tryd.func138
@[reducible] def fn_strconv_bitSizeError : Nat := 139
theorem go_strconv_bitSizeError : goFn PP 139 = true := by kernel_rfl
theorem func_strconv_bitSizeError : PP.funcs[139]? = some Go.Proofs.Tryd.f139 := Go.Proofs.Tryd.func139
@[reducible] def fn_internal_stringslite_Clone : Nat := 144
theorem go_internal_stringslite_Clone : goFn PP 144 = true := by kernel_rfl
theorem func_internal_stringslite_Clone : PP.funcs[144]? = some Go.Proofs.Tryd.f144 := Go.Proofs.Tryd.func144
@[reducible] def ty_int64 : Nat := 2
theorem sz_int64 : tySize PP 2 = some 1 := by kernel_rfl
theorem ze_int64 : zeroOf PP 2 = some (.int .i64 0) := by kernel_rfl
theorem one_int64 : tyOne PP 2 = true := by kernel_rfl
theorem ik_int64 : tyInt PP 2 = some .i64 := by kernel_rfl
@[reducible] def ty_int : Nat := 3
theorem sz_int : tySize PP 3 = some 1 := by kernel_rfl
theorem ze_int : zeroOf PP 3 = some (.int .i64 0) := by kernel_rfl
theorem one_int : tyOne PP 3 = true := by kernel_rfl
theorem ik_int : tyInt PP 3 = some .i64 := by kernel_rfl
@[reducible] def ty_bool : Nat := 4
theorem sz_bool : tySize PP 4 = some 1 := by kernel_rfl
theorem ze_bool : zeroOf PP 4 = some (.bool false) := by kernel_rfl
theorem one_bool : tyOne PP 4 = true := by kernel_rfl
theorem und_bool : PP.underlying 4 = some .bool := by kernel_rfl
@[reducible] def ty_uint8 : Nat := 5
theorem sz_uint8 : tySize PP 5 = some 1 := by kernel_rfl
theorem ze_uint8 : zeroOf PP 5 = some (.int .u8 0) := by kernel_rfl
theorem one_uint8 : tyOne PP 5 = true := by kernel_rfl
theorem ik_uint8 : tyInt PP 5 = some .u8 := by kernel_rfl
@[reducible] def ty_string : Nat := 9
theorem sz_string : tySize PP 9 = some 1 := by kernel_rfl
theorem ze_string : zeroOf PP 9 = some (.string ⟨#[]⟩) := by kernel_rfl
theorem one_string : tyOne PP 9 = true := by kernel_rfl
theorem str_string : tyStr PP 9 = true := by kernel_rfl
@[reducible] def ty_sl_api_Node : Nat := 22
theorem sz_sl_api_Node : tySize PP 22 = some 1 := by kernel_rfl
theorem ze_sl_api_Node : zeroOf PP 22 = some (.slice none 0 0) := by kernel_rfl
theorem one_sl_api_Node : tyOne PP 22 = true := by kernel_rfl
theorem el_sl_api_Node : tyElem PP 22 = some (26, 9, 104) := by kernel_rfl
@[reducible] def ty_api_Type : Nat := 24
theorem sz_api_Type : tySize PP 24 = some 2 := by kernel_rfl
theorem ze_api_Type : zeroOf PP 24 = some (.agg #[.int .i64 0, .string ⟨#[]⟩]) := by kernel_rfl
theorem agg_api_Type : tyAgg PP 24 = some 2 := by kernel_rfl
theorem fl_api_Type : tyFlat PP 24 = some [0, 1] := by kernel_rfl
theorem fo_api_Type_0 : fieldOff PP 24 0 = some 0 := by kernel_rfl
theorem fi_api_Type_0 : fieldIn PP 24 0 = some (0, none) := by kernel_rfl
theorem fo_api_Type_1 : fieldOff PP 24 1 = some 1 := by kernel_rfl
theorem fi_api_Type_1 : fieldIn PP 24 1 = some (1, none) := by kernel_rfl
theorem pl_api_Type : structPlaces PP 24 = some [(0, 1), (1, 1)] := by kernel_rfl
@[reducible] def ty_api_Node : Nat := 26
theorem sz_api_Node : tySize PP 26 = some 9 := by kernel_rfl
theorem ze_api_Node : zeroOf PP 26 = some (.agg #[.int .i64 0, .string ⟨#[]⟩, .int .i64 0, .int .i64 0, .slice none 0 0, .int .i64 0, .string ⟨#[]⟩, .int .i64 0, .int .i64 0]) := by kernel_rfl
theorem agg_api_Node : tyAgg PP 26 = some 9 := by kernel_rfl
theorem fo_api_Node_0 : fieldOff PP 26 0 = some 0 := by kernel_rfl
theorem fi_api_Node_0 : fieldIn PP 26 0 = some (0, none) := by kernel_rfl
theorem fo_api_Node_1 : fieldOff PP 26 1 = some 1 := by kernel_rfl
theorem fi_api_Node_1 : fieldIn PP 26 1 = some (1, none) := by kernel_rfl
theorem fo_api_Node_2 : fieldOff PP 26 2 = some 2 := by kernel_rfl
theorem fi_api_Node_2 : fieldIn PP 26 2 = some (2, none) := by kernel_rfl
theorem fo_api_Node_3 : fieldOff PP 26 3 = some 3 := by kernel_rfl
theorem fi_api_Node_3 : fieldIn PP 26 3 = some (3, none) := by kernel_rfl
theorem fo_api_Node_4 : fieldOff PP 26 4 = some 4 := by kernel_rfl
theorem fi_api_Node_4 : fieldIn PP 26 4 = some (4, none) := by kernel_rfl
theorem fo_api_Node_5 : fieldOff PP 26 5 = some 5 := by kernel_rfl
theorem fi_api_Node_5 : fieldIn PP 26 5 = some (5, some 2) := by kernel_rfl
theorem fo_api_Node_6 : fieldOff PP 26 6 = some 7 := by kernel_rfl
theorem fi_api_Node_6 : fieldIn PP 26 6 = some (7, none) := by kernel_rfl
theorem fo_api_Node_7 : fieldOff PP 26 7 = some 8 := by kernel_rfl
theorem fi_api_Node_7 : fieldIn PP 26 7 = some (8, none) := by kernel_rfl
theorem pl_api_Node : structPlaces PP 26 = some [(0, 1), (1, 1), (2, 1), (3, 1), (4, 1), (5, 2), (7, 1), (8, 1)] := by kernel_rfl
@[reducible] def ty_func_api_Node_api_Node : Nat := 31
theorem sz_func_api_Node_api_Node : tySize PP 31 = some 1 := by kernel_rfl
theorem ze_func_api_Node_api_Node : zeroOf PP 31 = some (.nilFunc) := by kernel_rfl
theorem one_func_api_Node_api_Node : tyOne PP 31 = true := by kernel_rfl
@[reducible] def ty_func_api_Node_bool : Nat := 32
theorem sz_func_api_Node_bool : tySize PP 32 = some 1 := by kernel_rfl
theorem ze_func_api_Node_bool : zeroOf PP 32 = some (.nilFunc) := by kernel_rfl
theorem one_func_api_Node_bool : tyOne PP 32 = true := by kernel_rfl
@[reducible] def ty_7_string : Nat := 33
theorem sz_7_string : tySize PP 33 = some 7 := by kernel_rfl
theorem ze_7_string : zeroOf PP 33 = some (.agg #[.string ⟨#[]⟩, .string ⟨#[]⟩, .string ⟨#[]⟩, .string ⟨#[]⟩, .string ⟨#[]⟩, .string ⟨#[]⟩, .string ⟨#[]⟩]) := by kernel_rfl
theorem agg_7_string : tyAgg PP 33 = some 7 := by kernel_rfl
@[reducible] def ty_func_uint8_bool : Nat := 40
theorem sz_func_uint8_bool : tySize PP 40 = some 1 := by kernel_rfl
theorem ze_func_uint8_bool : zeroOf PP 40 = some (.nilFunc) := by kernel_rfl
theorem one_func_uint8_bool : tyOne PP 40 = true := by kernel_rfl
@[reducible] def ty_func_func_api_Node_bool : Nat := 41
theorem sz_func_func_api_Node_bool : tySize PP 41 = some 1 := by kernel_rfl
theorem ze_func_func_api_Node_bool : zeroOf PP 41 = some (.nilFunc) := by kernel_rfl
theorem one_func_func_api_Node_bool : tyOne PP 41 = true := by kernel_rfl
@[reducible] def ty_iter_Seq_interleave_api_Node : Nat := 42
theorem sz_iter_Seq_interleave_api_Node : tySize PP 42 = some 1 := by kernel_rfl
theorem ze_iter_Seq_interleave_api_Node : zeroOf PP 42 = some (.nilFunc) := by kernel_rfl
theorem one_iter_Seq_interleave_api_Node : tyOne PP 42 = true := by kernel_rfl
@[reducible] def ty_fold_constant : Nat := 46
theorem sz_fold_constant : tySize PP 46 = some 2 := by kernel_rfl
theorem ze_fold_constant : zeroOf PP 46 = some (.agg #[.bool false, .int .i64 0]) := by kernel_rfl
theorem agg_fold_constant : tyAgg PP 46 = some 2 := by kernel_rfl
theorem fo_fold_constant_0 : fieldOff PP 46 0 = some 0 := by kernel_rfl
theorem fi_fold_constant_0 : fieldIn PP 46 0 = some (0, none) := by kernel_rfl
theorem fo_fold_constant_1 : fieldOff PP 46 1 = some 1 := by kernel_rfl
theorem fi_fold_constant_1 : fieldIn PP 46 1 = some (1, none) := by kernel_rfl
theorem pl_fold_constant : structPlaces PP 46 = some [(0, 1), (1, 1)] := by kernel_rfl
@[reducible] def ty_p_strings_Builder : Nat := 62
theorem sz_p_strings_Builder : tySize PP 62 = some 1 := by kernel_rfl
theorem ze_p_strings_Builder : zeroOf PP 62 = some (.pointer none) := by kernel_rfl
theorem one_p_strings_Builder : tyOne PP 62 = true := by kernel_rfl
theorem pt_p_strings_Builder : tyPtr PP 62 = true := by kernel_rfl
@[reducible] def ty_sl_uint8 : Nat := 63
theorem sz_sl_uint8 : tySize PP 63 = some 1 := by kernel_rfl
theorem ze_sl_uint8 : zeroOf PP 63 = some (.slice none 0 0) := by kernel_rfl
theorem one_sl_uint8 : tyOne PP 63 = true := by kernel_rfl
theorem el_sl_uint8 : tyElem PP 63 = some (5, 1, 1) := by kernel_rfl
@[reducible] def ty_strings_Builder : Nat := 65
theorem sz_strings_Builder : tySize PP 65 = some 2 := by kernel_rfl
theorem ze_strings_Builder : zeroOf PP 65 = some (.agg #[.pointer none, .slice none 0 0]) := by kernel_rfl
theorem agg_strings_Builder : tyAgg PP 65 = some 2 := by kernel_rfl
theorem fo_strings_Builder_0 : fieldOff PP 65 0 = some 0 := by kernel_rfl
theorem fi_strings_Builder_0 : fieldIn PP 65 0 = some (0, none) := by kernel_rfl
theorem fo_strings_Builder_1 : fieldOff PP 65 1 = some 1 := by kernel_rfl
theorem fi_strings_Builder_1 : fieldIn PP 65 1 = some (1, none) := by kernel_rfl
theorem pl_strings_Builder : structPlaces PP 65 = some [(0, 1), (1, 1)] := by kernel_rfl
@[reducible] def ty_syntax_printer : Nat := 67
theorem sz_syntax_printer : tySize PP 67 = some 3 := by kernel_rfl
theorem ze_syntax_printer : zeroOf PP 67 = some (.agg #[.pointer none, .slice none 0 0, .int .i64 0]) := by kernel_rfl
theorem agg_syntax_printer : tyAgg PP 67 = some 3 := by kernel_rfl
theorem fo_syntax_printer_0 : fieldOff PP 67 0 = some 0 := by kernel_rfl
theorem fi_syntax_printer_0 : fieldIn PP 67 0 = some (0, some 2) := by kernel_rfl
theorem fo_syntax_printer_1 : fieldOff PP 67 1 = some 2 := by kernel_rfl
theorem fi_syntax_printer_1 : fieldIn PP 67 1 = some (2, none) := by kernel_rfl
theorem pl_syntax_printer : structPlaces PP 67 = some [(0, 2), (2, 1)] := by kernel_rfl
@[reducible] def ty_p_syntax_printer : Nat := 73
theorem sz_p_syntax_printer : tySize PP 73 = some 1 := by kernel_rfl
theorem ze_p_syntax_printer : zeroOf PP 73 = some (.pointer none) := by kernel_rfl
theorem one_p_syntax_printer : tyOne PP 73 = true := by kernel_rfl
@[reducible] def ty_sl_string : Nat := 74
theorem sz_sl_string : tySize PP 74 = some 1 := by kernel_rfl
theorem ze_sl_string : zeroOf PP 74 = some (.slice none 0 0) := by kernel_rfl
theorem one_sl_string : tyOne PP 74 = true := by kernel_rfl
theorem el_sl_string : tyElem PP 74 = some (9, 1, 16) := by kernel_rfl
@[reducible] def ty_error : Nat := 76
theorem sz_error : tySize PP 76 = some 1 := by kernel_rfl
theorem ze_error : zeroOf PP 76 = some (.nilIface) := by kernel_rfl
theorem one_error : tyOne PP 76 = true := by kernel_rfl
theorem if_error : PP.isIface 76 = true := by kernel_rfl
@[reducible] def ty_p_uint8 : Nat := 79
theorem sz_p_uint8 : tySize PP 79 = some 1 := by kernel_rfl
theorem ze_p_uint8 : zeroOf PP 79 = some (.pointer none) := by kernel_rfl
theorem one_p_uint8 : tyOne PP 79 = true := by kernel_rfl
@[reducible] def ty_func_int_bool : Nat := 80
theorem sz_func_int_bool : tySize PP 80 = some 1 := by kernel_rfl
theorem ze_func_int_bool : zeroOf PP 80 = some (.nilFunc) := by kernel_rfl
theorem one_func_int_bool : tyOne PP 80 = true := by kernel_rfl
@[reducible] def ty_sl_api_Token : Nat := 87
theorem sz_sl_api_Token : tySize PP 87 = some 1 := by kernel_rfl
theorem ze_sl_api_Token : zeroOf PP 87 = some (.slice none 0 0) := by kernel_rfl
theorem one_sl_api_Token : tyOne PP 87 = true := by kernel_rfl
theorem el_sl_api_Token : tyElem PP 87 = some (92, 3, 32) := by kernel_rfl
@[reducible] def ty_api_Errno : Nat := 88
theorem sz_api_Errno : tySize PP 88 = some 1 := by kernel_rfl
theorem ze_api_Errno : zeroOf PP 88 = some (.int .i64 0) := by kernel_rfl
theorem one_api_Errno : tyOne PP 88 = true := by kernel_rfl
theorem ik_api_Errno : tyInt PP 88 = some .i64 := by kernel_rfl
@[reducible] def ty_api_Token : Nat := 92
theorem sz_api_Token : tySize PP 92 = some 3 := by kernel_rfl
theorem ze_api_Token : zeroOf PP 92 = some (.agg #[.int .i64 0, .string ⟨#[]⟩, .int .i64 0]) := by kernel_rfl
theorem agg_api_Token : tyAgg PP 92 = some 3 := by kernel_rfl
theorem fo_api_Token_0 : fieldOff PP 92 0 = some 0 := by kernel_rfl
theorem fi_api_Token_0 : fieldIn PP 92 0 = some (0, none) := by kernel_rfl
theorem fo_api_Token_1 : fieldOff PP 92 1 = some 1 := by kernel_rfl
theorem fi_api_Token_1 : fieldIn PP 92 1 = some (1, none) := by kernel_rfl
theorem fo_api_Token_2 : fieldOff PP 92 2 = some 2 := by kernel_rfl
theorem fi_api_Token_2 : fieldIn PP 92 2 = some (2, none) := by kernel_rfl
theorem pl_api_Token : structPlaces PP 92 = some [(0, 1), (1, 1), (2, 1)] := by kernel_rfl
@[reducible] def ty_sl_int : Nat := 93
theorem sz_sl_int : tySize PP 93 = some 1 := by kernel_rfl
theorem ze_sl_int : zeroOf PP 93 = some (.slice none 0 0) := by kernel_rfl
theorem one_sl_int : tyOne PP 93 = true := by kernel_rfl
theorem el_sl_int : tyElem PP 93 = some (3, 1, 8) := by kernel_rfl
@[reducible] def ty_sl_func_int_bool : Nat := 94
theorem sz_sl_func_int_bool : tySize PP 94 = some 1 := by kernel_rfl
theorem ze_sl_func_int_bool : zeroOf PP 94 = some (.slice none 0 0) := by kernel_rfl
theorem one_sl_func_int_bool : tyOne PP 94 = true := by kernel_rfl
theorem el_sl_func_int_bool : tyElem PP 94 = some (80, 1, 8) := by kernel_rfl
@[reducible] def ty_unsafe_Pointer : Nat := 99
theorem sz_unsafe_Pointer : tySize PP 99 = some 1 := by kernel_rfl
theorem ze_unsafe_Pointer : zeroOf PP 99 = some (.pointer none) := by kernel_rfl
theorem one_unsafe_Pointer : tyOne PP 99 = true := by kernel_rfl
@[reducible] def ty_p_scan_scanner : Nat := 101
theorem sz_p_scan_scanner : tySize PP 101 = some 1 := by kernel_rfl
theorem ze_p_scan_scanner : zeroOf PP 101 = some (.pointer none) := by kernel_rfl
theorem one_p_scan_scanner : tyOne PP 101 = true := by kernel_rfl
@[reducible] def ty_scan_scanner : Nat := 105
theorem sz_scan_scanner : tySize PP 105 = some 4 := by kernel_rfl
theorem ze_scan_scanner : zeroOf PP 105 = some (.agg #[.string ⟨#[]⟩, .int .i64 0, .slice none 0 0, .slice none 0 0]) := by kernel_rfl
theorem agg_scan_scanner : tyAgg PP 105 = some 4 := by kernel_rfl
theorem fo_scan_scanner_0 : fieldOff PP 105 0 = some 0 := by kernel_rfl
theorem fi_scan_scanner_0 : fieldIn PP 105 0 = some (0, none) := by kernel_rfl
theorem fo_scan_scanner_1 : fieldOff PP 105 1 = some 1 := by kernel_rfl
theorem fi_scan_scanner_1 : fieldIn PP 105 1 = some (1, none) := by kernel_rfl
theorem fo_scan_scanner_2 : fieldOff PP 105 2 = some 2 := by kernel_rfl
theorem fi_scan_scanner_2 : fieldIn PP 105 2 = some (2, none) := by kernel_rfl
theorem fo_scan_scanner_3 : fieldOff PP 105 3 = some 3 := by kernel_rfl
theorem fi_scan_scanner_3 : fieldIn PP 105 3 = some (3, none) := by kernel_rfl
theorem pl_scan_scanner : structPlaces PP 105 = some [(0, 1), (1, 1), (2, 1), (3, 1)] := by kernel_rfl
@[reducible] def ty_27_string : Nat := 113
theorem sz_27_string : tySize PP 113 = some 27 := by kernel_rfl
theorem ze_27_string : zeroOf PP 113 = some (.agg #[.string ⟨#[]⟩, .string ⟨#[]⟩, .string ⟨#[]⟩, .string ⟨#[]⟩, .string ⟨#[]⟩, .string ⟨#[]⟩, .string ⟨#[]⟩, .string ⟨#[]⟩, .string ⟨#[]⟩, .string ⟨#[]⟩, .string ⟨#[]⟩, .string ⟨#[]⟩, .string ⟨#[]⟩, .string ⟨#[]⟩, .string ⟨#[]⟩, .string ⟨#[]⟩, .string ⟨#[]⟩, .string ⟨#[]⟩, .string ⟨#[]⟩, .string ⟨#[]⟩, .string ⟨#[]⟩, .string ⟨#[]⟩, .string ⟨#[]⟩, .string ⟨#[]⟩, .string ⟨#[]⟩, .string ⟨#[]⟩, .string ⟨#[]⟩]) := by kernel_rfl
theorem agg_27_string : tyAgg PP 113 = some 27 := by kernel_rfl
theorem ar_27_string : tyArr1 PP 113 = some 27 := by kernel_rfl
@[reducible] def ty_strconv_Error : Nat := 127
theorem sz_strconv_Error : tySize PP 127 = some 1 := by kernel_rfl
theorem ze_strconv_Error : zeroOf PP 127 = some (.int .i64 0) := by kernel_rfl
theorem one_strconv_Error : tyOne PP 127 = true := by kernel_rfl
theorem ik_strconv_Error : tyInt PP 127 = some .i64 := by kernel_rfl
theorem con_strconv_Error : tyConc PP 127 = true := by kernel_rfl
@[reducible] def ty_p_strconv_NumError : Nat := 130
theorem sz_p_strconv_NumError : tySize PP 130 = some 1 := by kernel_rfl
theorem ze_p_strconv_NumError : zeroOf PP 130 = some (.pointer none) := by kernel_rfl
theorem one_p_strconv_NumError : tyOne PP 130 = true := by kernel_rfl
theorem con_p_strconv_NumError : tyConc PP 130 = true := by kernel_rfl
@[reducible] def ty_strconv_NumError : Nat := 137
theorem sz_strconv_NumError : tySize PP 137 = some 3 := by kernel_rfl
theorem ze_strconv_NumError : zeroOf PP 137 = some (.agg #[.string ⟨#[]⟩, .string ⟨#[]⟩, .nilIface]) := by kernel_rfl
theorem agg_strconv_NumError : tyAgg PP 137 = some 3 := by kernel_rfl
theorem fo_strconv_NumError_0 : fieldOff PP 137 0 = some 0 := by kernel_rfl
theorem fi_strconv_NumError_0 : fieldIn PP 137 0 = some (0, none) := by kernel_rfl
theorem fo_strconv_NumError_1 : fieldOff PP 137 1 = some 1 := by kernel_rfl
theorem fi_strconv_NumError_1 : fieldIn PP 137 1 = some (1, none) := by kernel_rfl
theorem fo_strconv_NumError_2 : fieldOff PP 137 2 = some 2 := by kernel_rfl
theorem fi_strconv_NumError_2 : fieldIn PP 137 2 = some (2, none) := by kernel_rfl
theorem pl_strconv_NumError : structPlaces PP 137 = some [(0, 1), (1, 1), (2, 1)] := by kernel_rfl
end Go.Rk
