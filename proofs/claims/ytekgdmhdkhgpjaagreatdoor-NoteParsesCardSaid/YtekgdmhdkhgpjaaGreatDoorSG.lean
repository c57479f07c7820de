/- Several texts, one behind the other: NKt Srt1 Prm Nk NKn -/
import Derived.Test.YtekgdmhdkhgpjaaGreatDoorSE
import Derived.Test.YtekgdmhdkhgpjaaGreatDoorSC4
import Derived.Test.YtekgdmhdkhgpjaaGreatDoorSD
import Derived.Test.YtekgdmhdkhgpjaaGreatDoorSC1
set_option linter.unusedSimpArgs false
set_option linter.unusedVariables false
namespace Go.Proofs.YtekgdmhdkhgpjaaGreatDoor.am
open Go
def tbl:List (Option KF):=[none,none,none,none,none,none,none,some k_dioptrelaw11_NoteParses,none,some k_dioptrelaw11_awake,some k_note_Lines,some k_dioptreref08_Right,some k_dioptreref11_Same,none,none,some k_note_PathText,none,some k_note_Print,some k_dioptreref08_Same,some k_dioptrelaw01_Code,some k_note_Parse,some k_dioptreref11_Text,some k_dioptreref11_Parse,none,some k_path_All,some k_path_Get,some k_note_written,some k_dioptreref08_Depth,some k_dioptreref08_sound,some k_strconv_FormatUint,some k_dioptreref11_Number,some k_value_Right,none,some k_note_parser_value,some k_dioptreref11_Int,some k_dioptreref03_Hex,some k_dioptreref11_Read,some k_path_all,some k_path_change,some k_path_Get_1,some k_value_Copy,some k_strconv_FormatBool,some k_strconv_Itoa,some k_note_quote,some k_note_joined,some k_note_written_1,some k_note_written_2,some k_dioptreref08_Name,some k_internal_strconv_FormatUint,some k_value_right,none,none,none,none,some k_note_parser_skip,some k_note_parser_until,some k_note_parser_text,some k_note_parser_list,some k_note_parser_value_1,some k_note_parser_want,some k_note_parser_value_2,some k_strconv_ParseUint,some k_strconv_Atoi,some k_dioptreref11_hex,some k_dioptreref11_parts,some k_dioptreref11_cut,some k_dioptreref11_number,some k_slices_Clip_api_Step,some k_path_part,some k_value_parts,some k_internal_strconv_FormatBool,some k_internal_strconv_Itoa,none,some k_internal_strconv_small,some k_internal_strconv_numDigits,some k_internal_strconv_formatBase10,some k_internal_strconv_formatBits,some k_value_plain,some k_slices_ContainsFunc_api_Value,some k_value_right_1,none,none,none,some k_strings_CutPrefix,some k_strings_IndexAny,some k_note_parser_hex,some k_internal_strconv_ParseUint,some k_strconv_toError,some k_internal_strconv_Atoi,some k_value_Elem,some k_value_Field,some k_slices_Index_string,some k_internal_strconv_FormatInt,none,none,none,some k_internal_strconv_log10Pow2,some k_math_bits_Len64,some k_internal_strconv_bool2_int,some k_internal_strconv_isPowerOfTwo,some k_math_bits_TrailingZeros,some k_value_Name,some k_value_rising,some k_value_unlike,some k_slices_IndexFunc_api_Value,some k_internal_stringslite_CutPrefix,some k_strings_IndexRune,some k_strings_shouldUseASCIISet,some k_strings_makeASCIISet,some k_strings_asciiSet_contains,some k_strings_IndexByte,some k_internal_strconv_lower,some k_internal_strconv_underscoreOK,some k_strconv_syntaxError,some k_strconv_rangeError,some k_strconv_baseError,some k_strconv_bitSizeError,some k_internal_strconv_ParseInt,some k_slices_Index_uint64,some k_value_whole,none,none,some k_math_bits_TrailingZeros32,some k_math_bits_TrailingZeros64,some k_strings_IndexFunc,some k_value_Name_1,some k_slices_Contains_uint64,some k_internal_stringslite_HasPrefix,some k_unicode_utf8_ValidRune,some k_internal_bytealg_Cutover,none,none,none,some k_errors_New,none,none,some k_strings_indexFunc]
def lib:FuncId → Option KF:=fun f => (tbl[f]?).join
set_option maxRecDepth 100000 in
theorem lib_ok:∀ f k,lib f=some k → ∃ fn,Tryz.prog.funcs[f]?=some fn ∧ KOK Tryz.prog fn k:=by
  have h:AllOK Tryz.prog 0 tbl:=⟨trivial,trivial,trivial,trivial,trivial,trivial,trivial,⟨_,Tryz.func7,ok_dioptrelaw11_NoteParses⟩,trivial,⟨_,Tryz.func9,ok_dioptrelaw11_awake⟩,⟨_,Tryz.func10,ok_note_Lines⟩,⟨_,Tryz.func11,ok_dioptreref08_Right⟩,⟨_,Tryz.func12,ok_dioptreref11_Same⟩,trivial,trivial,⟨_,Tryz.func15,ok_note_PathText⟩,trivial,⟨_,Tryz.func17,ok_note_Print⟩,⟨_,Tryz.func18,ok_dioptreref08_Same⟩,⟨_,Tryz.func19,ok_dioptrelaw01_Code⟩,⟨_,Tryz.func20,ok_note_Parse⟩,⟨_,Tryz.func21,ok_dioptreref11_Text⟩,⟨_,Tryz.func22,ok_dioptreref11_Parse⟩,trivial,⟨_,Tryz.func24,ok_path_All⟩,⟨_,Tryz.func25,ok_path_Get⟩,⟨_,Tryz.func26,ok_note_written⟩,⟨_,Tryz.func27,ok_dioptreref08_Depth⟩,⟨_,Tryz.func28,ok_dioptreref08_sound⟩,⟨_,Tryz.func29,ok_strconv_FormatUint⟩,⟨_,Tryz.func30,ok_dioptreref11_Number⟩,⟨_,Tryz.func31,ok_value_Right⟩,trivial,⟨_,Tryz.func33,ok_note_parser_value⟩,⟨_,Tryz.func34,ok_dioptreref11_Int⟩,⟨_,Tryz.func35,ok_dioptreref03_Hex⟩,⟨_,Tryz.func36,ok_dioptreref11_Read⟩,⟨_,Tryz.func37,ok_path_all⟩,⟨_,Tryz.func38,ok_path_change⟩,⟨_,Tryz.func39,ok_path_Get_1⟩,⟨_,Tryz.func40,ok_value_Copy⟩,⟨_,Tryz.func41,ok_strconv_FormatBool⟩,⟨_,Tryz.func42,ok_strconv_Itoa⟩,⟨_,Tryz.func43,ok_note_quote⟩,⟨_,Tryz.func44,ok_note_joined⟩,⟨_,Tryz.func45,ok_note_written_1⟩,⟨_,Tryz.func46,ok_note_written_2⟩,⟨_,Tryz.func47,ok_dioptreref08_Name⟩,⟨_,Tryz.func48,ok_internal_strconv_FormatUint⟩,⟨_,Tryz.func49,ok_value_right⟩,trivial,trivial,trivial,trivial,⟨_,Tryz.func54,ok_note_parser_skip⟩,⟨_,Tryz.func55,ok_note_parser_until⟩,⟨_,Tryz.func56,ok_note_parser_text⟩,⟨_,Tryz.func57,ok_note_parser_list⟩,⟨_,Tryz.func58,ok_note_parser_value_1⟩,⟨_,Tryz.func59,ok_note_parser_want⟩,⟨_,Tryz.func60,ok_note_parser_value_2⟩,⟨_,Tryz.func61,ok_strconv_ParseUint⟩,⟨_,Tryz.func62,ok_strconv_Atoi⟩,⟨_,Tryz.func63,ok_dioptreref11_hex⟩,⟨_,Tryz.func64,ok_dioptreref11_parts⟩,⟨_,Tryz.func65,ok_dioptreref11_cut⟩,⟨_,Tryz.func66,ok_dioptreref11_number⟩,⟨_,Tryz.func67,ok_slices_Clip_api_Step⟩,⟨_,Tryz.func68,ok_path_part⟩,⟨_,Tryz.func69,ok_value_parts⟩,⟨_,Tryz.func70,ok_internal_strconv_FormatBool⟩,⟨_,Tryz.func71,ok_internal_strconv_Itoa⟩,trivial,⟨_,Tryz.func73,ok_internal_strconv_small⟩,⟨_,Tryz.func74,ok_internal_strconv_numDigits⟩,⟨_,Tryz.func75,ok_internal_strconv_formatBase10⟩,⟨_,Tryz.func76,ok_internal_strconv_formatBits⟩,⟨_,Tryz.func77,ok_value_plain⟩,⟨_,Tryz.func78,ok_slices_ContainsFunc_api_Value⟩,⟨_,Tryz.func79,ok_value_right_1⟩,trivial,trivial,trivial,⟨_,Tryz.func83,ok_strings_CutPrefix⟩,⟨_,Tryz.func84,ok_strings_IndexAny⟩,⟨_,Tryz.func85,ok_note_parser_hex⟩,⟨_,Tryz.func86,ok_internal_strconv_ParseUint⟩,⟨_,Tryz.func87,ok_strconv_toError⟩,⟨_,Tryz.func88,ok_internal_strconv_Atoi⟩,⟨_,Tryz.func89,ok_value_Elem⟩,⟨_,Tryz.func90,ok_value_Field⟩,⟨_,Tryz.func91,ok_slices_Index_string⟩,⟨_,Tryz.func92,ok_internal_strconv_FormatInt⟩,trivial,trivial,trivial,⟨_,Tryz.func96,ok_internal_strconv_log10Pow2⟩,⟨_,Tryz.func97,ok_math_bits_Len64⟩,⟨_,Tryz.func98,ok_internal_strconv_bool2_int⟩,⟨_,Tryz.func99,ok_internal_strconv_isPowerOfTwo⟩,⟨_,Tryz.func100,ok_math_bits_TrailingZeros⟩,⟨_,Tryz.func101,ok_value_Name⟩,⟨_,Tryz.func102,ok_value_rising⟩,⟨_,Tryz.func103,ok_value_unlike⟩,⟨_,Tryz.func104,ok_slices_IndexFunc_api_Value⟩,⟨_,Tryz.func105,ok_internal_stringslite_CutPrefix⟩,⟨_,Tryz.func106,ok_strings_IndexRune⟩,⟨_,Tryz.func107,ok_strings_shouldUseASCIISet⟩,⟨_,Tryz.func108,ok_strings_makeASCIISet⟩,⟨_,Tryz.func109,ok_strings_asciiSet_contains⟩,⟨_,Tryz.func110,ok_strings_IndexByte⟩,⟨_,Tryz.func111,ok_internal_strconv_lower⟩,⟨_,Tryz.func112,ok_internal_strconv_underscoreOK⟩,⟨_,Tryz.func113,ok_strconv_syntaxError⟩,⟨_,Tryz.func114,ok_strconv_rangeError⟩,⟨_,Tryz.func115,ok_strconv_baseError⟩,⟨_,Tryz.func116,ok_strconv_bitSizeError⟩,⟨_,Tryz.func117,ok_internal_strconv_ParseInt⟩,⟨_,Tryz.func118,ok_slices_Index_uint64⟩,⟨_,Tryz.func119,ok_value_whole⟩,trivial,trivial,⟨_,Tryz.func122,ok_math_bits_TrailingZeros32⟩,⟨_,Tryz.func123,ok_math_bits_TrailingZeros64⟩,⟨_,Tryz.func124,ok_strings_IndexFunc⟩,⟨_,Tryz.func125,ok_value_Name_1⟩,⟨_,Tryz.func126,ok_slices_Contains_uint64⟩,⟨_,Tryz.func127,ok_internal_stringslite_HasPrefix⟩,⟨_,Tryz.func128,ok_unicode_utf8_ValidRune⟩,⟨_,Tryz.func129,ok_internal_bytealg_Cutover⟩,trivial,trivial,trivial,⟨_,Tryz.func133,ok_errors_New⟩,trivial,trivial,⟨_,Tryz.func136,ok_strings_indexFunc⟩,trivial⟩
  exact fun f k e => allOK_get h e
theorem run_dioptrelaw11_NoteParses {nk:NK} (a0:AV) (S:St):DF lib nk 7 [a0] S=doneK 7 [.tmp 2] S (DC lib nk c_dioptrelaw11_NoteParses ⟨[(0,a0)],[],S.length⟩ S):=DF_run (lib:=lib) (f:=7) (k:=k_dioptrelaw11_NoteParses) rfl (Nat.le_of_ble_eq_true rfl) S
theorem run_dioptreref08_Right {nk:NK} (a0:AV) (S:St):DF lib nk 11 [a0] S=doneK 11 [.tmp 2] S (DC lib nk c_dioptreref08_Right ⟨[(0,a0)],[],S.length⟩ S):=DF_run (lib:=lib) (f:=11) (k:=k_dioptreref08_Right) rfl (Nat.le_of_ble_eq_true rfl) S
theorem run_note_Print {nk:NK} (a0:AV) (S:St):DF lib nk 17 [a0] S=doneK 17 [.tmp 2,.tmp 3] S (DC lib nk c_note_Print ⟨[(0,a0)],[],S.length⟩ S):=DF_run (lib:=lib) (f:=17) (k:=k_note_Print) rfl (Nat.le_of_ble_eq_true rfl) S
theorem run_dioptreref08_Same {nk:NK} (a0 a1:AV) (S:St):DF lib nk 18 [a0,a1] S=doneK 18 [.tmp 4] S (DC lib nk c_dioptreref08_Same ⟨[(0,a0),(1,a1)],[],S.length⟩ S):=DF_run (lib:=lib) (f:=18) (k:=k_dioptreref08_Same) rfl (Nat.le_of_ble_eq_true rfl) S
theorem run_dioptrelaw01_Code {nk:NK} (a0:AV) (S:St):DF lib nk 19 [a0] S=doneK 19 [.tmp 2] S (DC lib nk c_dioptrelaw01_Code ⟨[(0,a0)],[],S.length⟩ S):=DF_run (lib:=lib) (f:=19) (k:=k_dioptrelaw01_Code) rfl (Nat.le_of_ble_eq_true rfl) S
theorem run_note_Parse {nk:NK} (a0:AV) (S:St):DF lib nk 20 [a0] S=doneK 20 [.cell 2 (.agg 6),.tmp 3] S (DC lib nk c_note_Parse ⟨[(0,a0)],[],S.length⟩ S):=DF_run (lib:=lib) (f:=20) (k:=k_note_Parse) rfl (Nat.le_of_ble_eq_true rfl) S
theorem run_dioptreref11_Text {nk:NK} (a0:AV) (S:St):DF lib nk 21 [a0] S=doneK 21 [.tmp 2] S (DC lib nk c_dioptreref11_Text ⟨[(0,a0)],[],S.length⟩ S):=DF_run (lib:=lib) (f:=21) (k:=k_dioptreref11_Text) rfl (Nat.le_of_ble_eq_true rfl) S
theorem run_dioptreref11_Parse {nk:NK} (a0:AV) (S:St):DF lib nk 22 [a0] S=doneK 22 [.cell 2 (.agg 6),.tmp 3] S (DC lib nk c_dioptreref11_Parse ⟨[(0,a0)],[],S.length⟩ S):=DF_run (lib:=lib) (f:=22) (k:=k_dioptreref11_Parse) rfl (Nat.le_of_ble_eq_true rfl) S
theorem run_note_written {nk:NK} (a0:AV) (S:St):DF lib nk 26 [a0] S=doneK 26 [.tmp 2] S (DC lib nk c_note_written ⟨[(0,a0)],[],S.length⟩ S):=DF_run (lib:=lib) (f:=26) (k:=k_note_written) rfl (Nat.le_of_ble_eq_true rfl) S
theorem run_dioptreref08_Depth {nk:NK} (a0:AV) (S:St):DF lib nk 27 [a0] S=doneK 27 [.tmp 2] S (DC lib nk c_dioptreref08_Depth ⟨[(0,a0)],[],S.length⟩ S):=DF_run (lib:=lib) (f:=27) (k:=k_dioptreref08_Depth) rfl (Nat.le_of_ble_eq_true rfl) S
theorem run_dioptreref08_sound {nk:NK} (a0:AV) (S:St):DF lib nk 28 [a0] S=doneK 28 [.tmp 2] S (DC lib nk c_dioptreref08_sound ⟨[(0,a0)],[],S.length⟩ S):=DF_run (lib:=lib) (f:=28) (k:=k_dioptreref08_sound) rfl (Nat.le_of_ble_eq_true rfl) S
theorem run_strconv_FormatUint {nk:NK} (a0 a1:AV) (S:St):DF lib nk 29 [a0,a1] S=doneK 29 [.tmp 4] S (DC lib nk c_strconv_FormatUint ⟨[(0,a0),(1,a1)],[],S.length⟩ S):=DF_run (lib:=lib) (f:=29) (k:=k_strconv_FormatUint) rfl (Nat.le_of_ble_eq_true rfl) S
theorem run_dioptreref11_Number {nk:NK} (a0:AV) (S:St):DF lib nk 30 [a0] S=doneK 30 [.tmp 2] S (DC lib nk c_dioptreref11_Number ⟨[(0,a0)],[],S.length⟩ S):=DF_run (lib:=lib) (f:=30) (k:=k_dioptreref11_Number) rfl (Nat.le_of_ble_eq_true rfl) S
theorem run_value_Right {nk:NK} (a0:AV) (S:St):DF lib nk 31 [a0] S=doneK 31 [.tmp 2] S (DC lib nk c_value_Right ⟨[(0,a0)],[],S.length⟩ S):=DF_run (lib:=lib) (f:=31) (k:=k_value_Right) rfl (Nat.le_of_ble_eq_true rfl) S
theorem run_note_parser_value {nk:NK} (a0 a1:AV) (S:St):DF lib nk 33 [a0,a1] S=doneK 33 [.cell 4 (.agg 6)] S (DC lib nk c_note_parser_value ⟨[(0,a0),(1,a1)],[],S.length⟩ S):=DF_run (lib:=lib) (f:=33) (k:=k_note_parser_value) rfl (Nat.le_of_ble_eq_true rfl) S
theorem run_dioptreref11_Int {nk:NK} (a0:AV) (S:St):DF lib nk 34 [a0] S=doneK 34 [.tmp 2] S (DC lib nk c_dioptreref11_Int ⟨[(0,a0)],[],S.length⟩ S):=DF_run (lib:=lib) (f:=34) (k:=k_dioptreref11_Int) rfl (Nat.le_of_ble_eq_true rfl) S
theorem run_dioptreref03_Hex {nk:NK} (a0:AV) (S:St):DF lib nk 35 [a0] S=doneK 35 [.tmp 2] S (DC lib nk c_dioptreref03_Hex ⟨[(0,a0)],[],S.length⟩ S):=DF_run (lib:=lib) (f:=35) (k:=k_dioptreref03_Hex) rfl (Nat.le_of_ble_eq_true rfl) S
theorem run_dioptreref11_Read {nk:NK} (a0 a1:AV) (S:St):DF lib nk 36 [a0,a1] S=doneK 36 [.cell 4 (.agg 6),.tmp 5,.tmp 6] S (DC lib nk c_dioptreref11_Read ⟨[(0,a0),(1,a1)],[],S.length⟩ S):=DF_run (lib:=lib) (f:=36) (k:=k_dioptreref11_Read) rfl (Nat.le_of_ble_eq_true rfl) S
theorem run_strconv_FormatBool {nk:NK} (a0:AV) (S:St):DF lib nk 41 [a0] S=doneK 41 [.tmp 2] S (DC lib nk c_strconv_FormatBool ⟨[(0,a0)],[],S.length⟩ S):=DF_run (lib:=lib) (f:=41) (k:=k_strconv_FormatBool) rfl (Nat.le_of_ble_eq_true rfl) S
theorem run_strconv_Itoa {nk:NK} (a0:AV) (S:St):DF lib nk 42 [a0] S=doneK 42 [.tmp 2] S (DC lib nk c_strconv_Itoa ⟨[(0,a0)],[],S.length⟩ S):=DF_run (lib:=lib) (f:=42) (k:=k_strconv_Itoa) rfl (Nat.le_of_ble_eq_true rfl) S
theorem run_note_quote {nk:NK} (a0:AV) (S:St):DF lib nk 43 [a0] S=doneK 43 [.tmp 2] S (DC lib nk c_note_quote ⟨[(0,a0)],[],S.length⟩ S):=DF_run (lib:=lib) (f:=43) (k:=k_note_quote) rfl (Nat.le_of_ble_eq_true rfl) S
theorem run_note_joined {nk:NK} (a0 a1 a2 a3:AV) (S:St):DF lib nk 44 [a0,a1,a2,a3] S=doneK 44 [.tmp 8] S (DC lib nk c_note_joined ⟨[(0,a0),(1,a1),(2,a2),(3,a3)],[],S.length⟩ S):=DF_run (lib:=lib) (f:=44) (k:=k_note_joined) rfl (Nat.le_of_ble_eq_true rfl) S
theorem run_dioptreref08_Name {nk:NK} (a0:AV) (S:St):DF lib nk 47 [a0] S=doneK 47 [.tmp 2] S (DC lib nk c_dioptreref08_Name ⟨[(0,a0)],[],S.length⟩ S):=DF_run (lib:=lib) (f:=47) (k:=k_dioptreref08_Name) rfl (Nat.le_of_ble_eq_true rfl) S
theorem run_internal_strconv_FormatUint {nk:NK} (a0 a1:AV) (S:St):DF lib nk 48 [a0,a1] S=doneK 48 [.tmp 4] S (DC lib nk c_internal_strconv_FormatUint ⟨[(0,a0),(1,a1)],[],S.length⟩ S):=DF_run (lib:=lib) (f:=48) (k:=k_internal_strconv_FormatUint) rfl (Nat.le_of_ble_eq_true rfl) S
theorem run_value_right {nk:NK} (a0 a1:AV) (S:St):DF lib nk 49 [a0,a1] S=doneK 49 [.tmp 4] S (DC lib nk c_value_right ⟨[(0,a0),(1,a1)],[],S.length⟩ S):=DF_run (lib:=lib) (f:=49) (k:=k_value_right) rfl (Nat.le_of_ble_eq_true rfl) S
theorem run_note_parser_skip {nk:NK} (a0 a1:AV) (S:St):DF lib nk 54 [a0,a1] S=doneK 54 [.tmp 4] S (DC lib nk c_note_parser_skip ⟨[(0,a0),(1,a1)],[],S.length⟩ S):=DF_run (lib:=lib) (f:=54) (k:=k_note_parser_skip) rfl (Nat.le_of_ble_eq_true rfl) S
theorem run_note_parser_until {nk:NK} (a0 a1:AV) (S:St):DF lib nk 55 [a0,a1] S=doneK 55 [.tmp 4] S (DC lib nk c_note_parser_until ⟨[(0,a0),(1,a1)],[],S.length⟩ S):=DF_run (lib:=lib) (f:=55) (k:=k_note_parser_until) rfl (Nat.le_of_ble_eq_true rfl) S
theorem run_note_parser_text {nk:NK} (a0:AV) (S:St):DF lib nk 56 [a0] S=doneK 56 [.tmp 2] S (DC lib nk c_note_parser_text ⟨[(0,a0)],[],S.length⟩ S):=DF_run (lib:=lib) (f:=56) (k:=k_note_parser_text) rfl (Nat.le_of_ble_eq_true rfl) S
theorem run_note_parser_list {nk:NK} (a0 a1 a2:AV) (S:St):DF lib nk 57 [a0,a1,a2] S=doneK 57 [] S (DC lib nk c_note_parser_list ⟨[(0,a0),(1,a1),(2,a2)],[],S.length⟩ S):=DF_run (lib:=lib) (f:=57) (k:=k_note_parser_list) rfl (Nat.le_of_ble_eq_true rfl) S
theorem run_note_parser_want {nk:NK} (a0 a1:AV) (S:St):DF lib nk 59 [a0,a1] S=doneK 59 [] S (DC lib nk c_note_parser_want ⟨[(0,a0),(1,a1)],[],S.length⟩ S):=DF_run (lib:=lib) (f:=59) (k:=k_note_parser_want) rfl (Nat.le_of_ble_eq_true rfl) S
theorem run_strconv_ParseUint {nk:NK} (a0 a1 a2:AV) (S:St):DF lib nk 61 [a0,a1,a2] S=doneK 61 [.tmp 6,.tmp 7] S (DC lib nk c_strconv_ParseUint ⟨[(0,a0),(1,a1),(2,a2)],[],S.length⟩ S):=DF_run (lib:=lib) (f:=61) (k:=k_strconv_ParseUint) rfl (Nat.le_of_ble_eq_true rfl) S
theorem run_strconv_Atoi {nk:NK} (a0:AV) (S:St):DF lib nk 62 [a0] S=doneK 62 [.tmp 2,.tmp 3] S (DC lib nk c_strconv_Atoi ⟨[(0,a0)],[],S.length⟩ S):=DF_run (lib:=lib) (f:=62) (k:=k_strconv_Atoi) rfl (Nat.le_of_ble_eq_true rfl) S
theorem run_dioptreref11_hex {nk:NK} (a0:AV) (S:St):DF lib nk 63 [a0] S=doneK 63 [.tmp 2] S (DC lib nk c_dioptreref11_hex ⟨[(0,a0)],[],S.length⟩ S):=DF_run (lib:=lib) (f:=63) (k:=k_dioptreref11_hex) rfl (Nat.le_of_ble_eq_true rfl) S
theorem run_dioptreref11_parts {nk:NK} (a0 a1:AV) (S:St):DF lib nk 64 [a0,a1] S=doneK 64 [.cell 4 (.agg 6),.tmp 5,.tmp 6] S (DC lib nk c_dioptreref11_parts ⟨[(0,a0),(1,a1)],[],S.length⟩ S):=DF_run (lib:=lib) (f:=64) (k:=k_dioptreref11_parts) rfl (Nat.le_of_ble_eq_true rfl) S
theorem run_dioptreref11_cut {nk:NK} (a0 a1 a2 a3:AV) (S:St):DF lib nk 65 [a0,a1,a2,a3] S=doneK 65 [.tmp 8,.tmp 9] S (DC lib nk c_dioptreref11_cut ⟨[(0,a0),(1,a1),(2,a2),(3,a3)],[],S.length⟩ S):=DF_run (lib:=lib) (f:=65) (k:=k_dioptreref11_cut) rfl (Nat.le_of_ble_eq_true rfl) S
theorem run_dioptreref11_number {nk:NK} (a0:AV) (S:St):DF lib nk 66 [a0] S=doneK 66 [.tmp 2,.tmp 3] S (DC lib nk c_dioptreref11_number ⟨[(0,a0)],[],S.length⟩ S):=DF_run (lib:=lib) (f:=66) (k:=k_dioptreref11_number) rfl (Nat.le_of_ble_eq_true rfl) S
theorem run_internal_strconv_FormatBool {nk:NK} (a0:AV) (S:St):DF lib nk 70 [a0] S=doneK 70 [.tmp 2] S (DC lib nk c_internal_strconv_FormatBool ⟨[(0,a0)],[],S.length⟩ S):=DF_run (lib:=lib) (f:=70) (k:=k_internal_strconv_FormatBool) rfl (Nat.le_of_ble_eq_true rfl) S
theorem run_internal_strconv_Itoa {nk:NK} (a0:AV) (S:St):DF lib nk 71 [a0] S=doneK 71 [.tmp 2] S (DC lib nk c_internal_strconv_Itoa ⟨[(0,a0)],[],S.length⟩ S):=DF_run (lib:=lib) (f:=71) (k:=k_internal_strconv_Itoa) rfl (Nat.le_of_ble_eq_true rfl) S
theorem run_internal_strconv_small {nk:NK} (a0:AV) (S:St):DF lib nk 73 [a0] S=doneK 73 [.tmp 2] S (DC lib nk c_internal_strconv_small ⟨[(0,a0)],[],S.length⟩ S):=DF_run (lib:=lib) (f:=73) (k:=k_internal_strconv_small) rfl (Nat.le_of_ble_eq_true rfl) S
theorem run_internal_strconv_numDigits {nk:NK} (a0:AV) (S:St):DF lib nk 74 [a0] S=doneK 74 [.tmp 2] S (DC lib nk c_internal_strconv_numDigits ⟨[(0,a0)],[],S.length⟩ S):=DF_run (lib:=lib) (f:=74) (k:=k_internal_strconv_numDigits) rfl (Nat.le_of_ble_eq_true rfl) S
theorem run_internal_strconv_formatBase10 {nk:NK} (a0 a1:AV) (S:St):DF lib nk 75 [a0,a1] S=doneK 75 [] S (DC lib nk c_internal_strconv_formatBase10 ⟨[(0,a0),(1,a1)],[],S.length⟩ S):=DF_run (lib:=lib) (f:=75) (k:=k_internal_strconv_formatBase10) rfl (Nat.le_of_ble_eq_true rfl) S
theorem run_value_plain {nk:NK} (a0:AV) (S:St):DF lib nk 77 [a0] S=doneK 77 [.tmp 2] S (DC lib nk c_value_plain ⟨[(0,a0)],[],S.length⟩ S):=DF_run (lib:=lib) (f:=77) (k:=k_value_plain) rfl (Nat.le_of_ble_eq_true rfl) S
theorem run_slices_ContainsFunc_api_Value {nk:NK} (a0 a1:AV) (S:St):DF lib nk 78 [a0,a1] S=doneK 78 [.tmp 4] S (DC lib nk c_slices_ContainsFunc_api_Value ⟨[(0,a0),(1,a1)],[],S.length⟩ S):=DF_run (lib:=lib) (f:=78) (k:=k_slices_ContainsFunc_api_Value) rfl (Nat.le_of_ble_eq_true rfl) S
theorem run_strings_CutPrefix {nk:NK} (a0 a1:AV) (S:St):DF lib nk 83 [a0,a1] S=doneK 83 [.tmp 4,.tmp 5] S (DC lib nk c_strings_CutPrefix ⟨[(0,a0),(1,a1)],[],S.length⟩ S):=DF_run (lib:=lib) (f:=83) (k:=k_strings_CutPrefix) rfl (Nat.le_of_ble_eq_true rfl) S
theorem run_strings_IndexAny {nk:NK} (a0 a1:AV) (S:St):DF lib nk 84 [a0,a1] S=doneK 84 [.tmp 4] S (DC lib nk c_strings_IndexAny ⟨[(0,a0),(1,a1)],[],S.length⟩ S):=DF_run (lib:=lib) (f:=84) (k:=k_strings_IndexAny) rfl (Nat.le_of_ble_eq_true rfl) S
theorem run_note_parser_hex {nk:NK} (a0 a1:AV) (S:St):DF lib nk 85 [a0,a1] S=doneK 85 [.tmp 4] S (DC lib nk c_note_parser_hex ⟨[(0,a0),(1,a1)],[],S.length⟩ S):=DF_run (lib:=lib) (f:=85) (k:=k_note_parser_hex) rfl (Nat.le_of_ble_eq_true rfl) S
theorem run_internal_strconv_ParseUint {nk:NK} (a0 a1 a2:AV) (S:St):DF lib nk 86 [a0,a1,a2] S=doneK 86 [.tmp 6,.tmp 7] S (DC lib nk c_internal_strconv_ParseUint ⟨[(0,a0),(1,a1),(2,a2)],[],S.length⟩ S):=DF_run (lib:=lib) (f:=86) (k:=k_internal_strconv_ParseUint) rfl (Nat.le_of_ble_eq_true rfl) S
theorem run_strconv_toError {nk:NK} (a0 a1 a2 a3 a4:AV) (S:St):DF lib nk 87 [a0,a1,a2,a3,a4] S=doneK 87 [.tmp 10] S (DC lib nk c_strconv_toError ⟨[(0,a0),(1,a1),(2,a2),(3,a3),(4,a4)],[],S.length⟩ S):=DF_run (lib:=lib) (f:=87) (k:=k_strconv_toError) rfl (Nat.le_of_ble_eq_true rfl) S
theorem run_internal_strconv_Atoi {nk:NK} (a0:AV) (S:St):DF lib nk 88 [a0] S=doneK 88 [.tmp 2,.tmp 3] S (DC lib nk c_internal_strconv_Atoi ⟨[(0,a0)],[],S.length⟩ S):=DF_run (lib:=lib) (f:=88) (k:=k_internal_strconv_Atoi) rfl (Nat.le_of_ble_eq_true rfl) S
theorem run_internal_strconv_FormatInt {nk:NK} (a0 a1:AV) (S:St):DF lib nk 92 [a0,a1] S=doneK 92 [.tmp 4] S (DC lib nk c_internal_strconv_FormatInt ⟨[(0,a0),(1,a1)],[],S.length⟩ S):=DF_run (lib:=lib) (f:=92) (k:=k_internal_strconv_FormatInt) rfl (Nat.le_of_ble_eq_true rfl) S
theorem run_internal_strconv_log10Pow2 {nk:NK} (a0:AV) (S:St):DF lib nk 96 [a0] S=doneK 96 [.tmp 2] S (DC lib nk c_internal_strconv_log10Pow2 ⟨[(0,a0)],[],S.length⟩ S):=DF_run (lib:=lib) (f:=96) (k:=k_internal_strconv_log10Pow2) rfl (Nat.le_of_ble_eq_true rfl) S
theorem run_math_bits_Len64 {nk:NK} (a0:AV) (S:St):DF lib nk 97 [a0] S=doneK 97 [.tmp 2] S (DC lib nk c_math_bits_Len64 ⟨[(0,a0)],[],S.length⟩ S):=DF_run (lib:=lib) (f:=97) (k:=k_math_bits_Len64) rfl (Nat.le_of_ble_eq_true rfl) S
theorem run_internal_strconv_bool2_int {nk:NK} (a0:AV) (S:St):DF lib nk 98 [a0] S=doneK 98 [.tmp 2] S (DC lib nk c_internal_strconv_bool2_int ⟨[(0,a0)],[],S.length⟩ S):=DF_run (lib:=lib) (f:=98) (k:=k_internal_strconv_bool2_int) rfl (Nat.le_of_ble_eq_true rfl) S
theorem run_value_Name {nk:NK} (a0:AV) (S:St):DF lib nk 101 [a0] S=doneK 101 [.tmp 2] S (DC lib nk c_value_Name ⟨[(0,a0)],[],S.length⟩ S):=DF_run (lib:=lib) (f:=101) (k:=k_value_Name) rfl (Nat.le_of_ble_eq_true rfl) S
theorem run_value_rising {nk:NK} (a0:AV) (S:St):DF lib nk 102 [a0] S=doneK 102 [.tmp 2] S (DC lib nk c_value_rising ⟨[(0,a0)],[],S.length⟩ S):=DF_run (lib:=lib) (f:=102) (k:=k_value_rising) rfl (Nat.le_of_ble_eq_true rfl) S
theorem run_value_unlike {nk:NK} (a0:AV) (S:St):DF lib nk 103 [a0] S=doneK 103 [.tmp 2] S (DC lib nk c_value_unlike ⟨[(0,a0)],[],S.length⟩ S):=DF_run (lib:=lib) (f:=103) (k:=k_value_unlike) rfl (Nat.le_of_ble_eq_true rfl) S
theorem run_slices_IndexFunc_api_Value {nk:NK} (a0 a1:AV) (S:St):DF lib nk 104 [a0,a1] S=doneK 104 [.tmp 4] S (DC lib nk c_slices_IndexFunc_api_Value ⟨[(0,a0),(1,a1)],[],S.length⟩ S):=DF_run (lib:=lib) (f:=104) (k:=k_slices_IndexFunc_api_Value) rfl (Nat.le_of_ble_eq_true rfl) S
theorem run_internal_stringslite_CutPrefix {nk:NK} (a0 a1:AV) (S:St):DF lib nk 105 [a0,a1] S=doneK 105 [.tmp 4,.tmp 5] S (DC lib nk c_internal_stringslite_CutPrefix ⟨[(0,a0),(1,a1)],[],S.length⟩ S):=DF_run (lib:=lib) (f:=105) (k:=k_internal_stringslite_CutPrefix) rfl (Nat.le_of_ble_eq_true rfl) S
theorem run_strings_IndexRune {nk:NK} (a0 a1:AV) (S:St):DF lib nk 106 [a0,a1] S=doneK 106 [.tmp 4] S (DC lib nk c_strings_IndexRune ⟨[(0,a0),(1,a1)],[],S.length⟩ S):=DF_run (lib:=lib) (f:=106) (k:=k_strings_IndexRune) rfl (Nat.le_of_ble_eq_true rfl) S
theorem run_strings_shouldUseASCIISet {nk:NK} (a0:AV) (S:St):DF lib nk 107 [a0] S=doneK 107 [.tmp 2] S (DC lib nk c_strings_shouldUseASCIISet ⟨[(0,a0)],[],S.length⟩ S):=DF_run (lib:=lib) (f:=107) (k:=k_strings_shouldUseASCIISet) rfl (Nat.le_of_ble_eq_true rfl) S
theorem run_strings_makeASCIISet {nk:NK} (a0:AV) (S:St):DF lib nk 108 [a0] S=doneK 108 [.cell 2 (.agg 256),.tmp 3] S (DC lib nk c_strings_makeASCIISet ⟨[(0,a0)],[],S.length⟩ S):=DF_run (lib:=lib) (f:=108) (k:=k_strings_makeASCIISet) rfl (Nat.le_of_ble_eq_true rfl) S
theorem run_strings_asciiSet_contains {nk:NK} (a0 a1:AV) (S:St):DF lib nk 109 [a0,a1] S=doneK 109 [.tmp 4] S (DC lib nk c_strings_asciiSet_contains ⟨[(0,a0),(1,a1)],[],S.length⟩ S):=DF_run (lib:=lib) (f:=109) (k:=k_strings_asciiSet_contains) rfl (Nat.le_of_ble_eq_true rfl) S
theorem run_strings_IndexByte {nk:NK} (a0 a1:AV) (S:St):DF lib nk 110 [a0,a1] S=doneK 110 [.tmp 4] S (DC lib nk c_strings_IndexByte ⟨[(0,a0),(1,a1)],[],S.length⟩ S):=DF_run (lib:=lib) (f:=110) (k:=k_strings_IndexByte) rfl (Nat.le_of_ble_eq_true rfl) S
theorem run_internal_strconv_lower {nk:NK} (a0:AV) (S:St):DF lib nk 111 [a0] S=doneK 111 [.tmp 2] S (DC lib nk c_internal_strconv_lower ⟨[(0,a0)],[],S.length⟩ S):=DF_run (lib:=lib) (f:=111) (k:=k_internal_strconv_lower) rfl (Nat.le_of_ble_eq_true rfl) S
theorem run_strconv_syntaxError {nk:NK} (a0 a1:AV) (S:St):DF lib nk 113 [a0,a1] S=doneK 113 [.tmp 4] S (DC lib nk c_strconv_syntaxError ⟨[(0,a0),(1,a1)],[],S.length⟩ S):=DF_run (lib:=lib) (f:=113) (k:=k_strconv_syntaxError) rfl (Nat.le_of_ble_eq_true rfl) S
theorem run_strconv_rangeError {nk:NK} (a0 a1:AV) (S:St):DF lib nk 114 [a0,a1] S=doneK 114 [.tmp 4] S (DC lib nk c_strconv_rangeError ⟨[(0,a0),(1,a1)],[],S.length⟩ S):=DF_run (lib:=lib) (f:=114) (k:=k_strconv_rangeError) rfl (Nat.le_of_ble_eq_true rfl) S
theorem run_internal_strconv_ParseInt {nk:NK} (a0 a1 a2:AV) (S:St):DF lib nk 117 [a0,a1,a2] S=doneK 117 [.tmp 6,.tmp 7] S (DC lib nk c_internal_strconv_ParseInt ⟨[(0,a0),(1,a1),(2,a2)],[],S.length⟩ S):=DF_run (lib:=lib) (f:=117) (k:=k_internal_strconv_ParseInt) rfl (Nat.le_of_ble_eq_true rfl) S
theorem run_slices_Index_uint64 {nk:NK} (a0 a1:AV) (S:St):DF lib nk 118 [a0,a1] S=doneK 118 [.tmp 4] S (DC lib nk c_slices_Index_uint64 ⟨[(0,a0),(1,a1)],[],S.length⟩ S):=DF_run (lib:=lib) (f:=118) (k:=k_slices_Index_uint64) rfl (Nat.le_of_ble_eq_true rfl) S
theorem run_strings_IndexFunc {nk:NK} (a0 a1:AV) (S:St):DF lib nk 124 [a0,a1] S=doneK 124 [.tmp 4] S (DC lib nk c_strings_IndexFunc ⟨[(0,a0),(1,a1)],[],S.length⟩ S):=DF_run (lib:=lib) (f:=124) (k:=k_strings_IndexFunc) rfl (Nat.le_of_ble_eq_true rfl) S
theorem run_value_Name_1 {nk:NK} (a0:AV) (S:St):DF lib nk 125 [a0] S=doneK 125 [.tmp 2] S (DC lib nk c_value_Name_1 ⟨[(0,a0)],[],S.length⟩ S):=DF_run (lib:=lib) (f:=125) (k:=k_value_Name_1) rfl (Nat.le_of_ble_eq_true rfl) S
theorem run_slices_Contains_uint64 {nk:NK} (a0 a1:AV) (S:St):DF lib nk 126 [a0,a1] S=doneK 126 [.tmp 4] S (DC lib nk c_slices_Contains_uint64 ⟨[(0,a0),(1,a1)],[],S.length⟩ S):=DF_run (lib:=lib) (f:=126) (k:=k_slices_Contains_uint64) rfl (Nat.le_of_ble_eq_true rfl) S
theorem run_internal_stringslite_HasPrefix {nk:NK} (a0 a1:AV) (S:St):DF lib nk 127 [a0,a1] S=doneK 127 [.tmp 4] S (DC lib nk c_internal_stringslite_HasPrefix ⟨[(0,a0),(1,a1)],[],S.length⟩ S):=DF_run (lib:=lib) (f:=127) (k:=k_internal_stringslite_HasPrefix) rfl (Nat.le_of_ble_eq_true rfl) S
theorem run_unicode_utf8_ValidRune {nk:NK} (a0:AV) (S:St):DF lib nk 128 [a0] S=doneK 128 [.tmp 2] S (DC lib nk c_unicode_utf8_ValidRune ⟨[(0,a0)],[],S.length⟩ S):=DF_run (lib:=lib) (f:=128) (k:=k_unicode_utf8_ValidRune) rfl (Nat.le_of_ble_eq_true rfl) S
theorem run_strings_indexFunc {nk:NK} (a0 a1 a2:AV) (S:St):DF lib nk 136 [a0,a1,a2] S=doneK 136 [.tmp 6] S (DC lib nk c_strings_indexFunc ⟨[(0,a0),(1,a1),(2,a2)],[],S.length⟩ S):=DF_run (lib:=lib) (f:=136) (k:=k_strings_indexFunc) rfl (Nat.le_of_ble_eq_true rfl) S
@[simp] theorem rawF_dioptrelaw11_NoteParses:rawF 7=false:=rfl
@[simp] theorem boxF_dioptrelaw11_NoteParses:boxF 7=false:=rfl
@[simp] theorem rawF_dioptrelaw11_awake:rawF 9=false:=rfl
@[simp] theorem boxF_dioptrelaw11_awake:boxF 9=false:=rfl
@[simp] theorem rawF_note_Lines:rawF 10=false:=rfl
@[simp] theorem boxF_note_Lines:boxF 10=false:=rfl
@[simp] theorem rawF_dioptreref08_Right:rawF 11=false:=rfl
@[simp] theorem boxF_dioptreref08_Right:boxF 11=false:=rfl
@[simp] theorem rawF_dioptreref11_Same:rawF 12=false:=rfl
@[simp] theorem boxF_dioptreref11_Same:boxF 12=false:=rfl
@[simp] theorem rawF_note_PathText:rawF 15=false:=rfl
@[simp] theorem boxF_note_PathText:boxF 15=false:=rfl
@[simp] theorem rawF_note_Print:rawF 17=false:=rfl
@[simp] theorem boxF_note_Print:boxF 17=false:=rfl
@[simp] theorem rawF_dioptreref08_Same:rawF 18=false:=rfl
@[simp] theorem boxF_dioptreref08_Same:boxF 18=false:=rfl
@[simp] theorem rawF_dioptrelaw01_Code:rawF 19=false:=rfl
@[simp] theorem boxF_dioptrelaw01_Code:boxF 19=false:=rfl
@[simp] theorem rawF_note_Parse:rawF 20=false:=rfl
@[simp] theorem boxF_note_Parse:boxF 20=false:=rfl
@[simp] theorem rawF_dioptreref11_Text:rawF 21=false:=rfl
@[simp] theorem boxF_dioptreref11_Text:boxF 21=false:=rfl
@[simp] theorem rawF_dioptreref11_Parse:rawF 22=false:=rfl
@[simp] theorem boxF_dioptreref11_Parse:boxF 22=false:=rfl
@[simp] theorem rawF_path_All:rawF 24=false:=rfl
@[simp] theorem boxF_path_All:boxF 24=false:=rfl
@[simp] theorem rawF_path_Get:rawF 25=false:=rfl
@[simp] theorem boxF_path_Get:boxF 25=false:=rfl
@[simp] theorem rawF_note_written:rawF 26=false:=rfl
@[simp] theorem boxF_note_written:boxF 26=false:=rfl
@[simp] theorem rawF_dioptreref08_Depth:rawF 27=false:=rfl
@[simp] theorem boxF_dioptreref08_Depth:boxF 27=false:=rfl
@[simp] theorem rawF_dioptreref08_sound:rawF 28=false:=rfl
@[simp] theorem boxF_dioptreref08_sound:boxF 28=false:=rfl
@[simp] theorem rawF_strconv_FormatUint:rawF 29=false:=rfl
@[simp] theorem boxF_strconv_FormatUint:boxF 29=false:=rfl
@[simp] theorem rawF_dioptreref11_Number:rawF 30=false:=rfl
@[simp] theorem boxF_dioptreref11_Number:boxF 30=false:=rfl
@[simp] theorem rawF_value_Right:rawF 31=false:=rfl
@[simp] theorem boxF_value_Right:boxF 31=false:=rfl
@[simp] theorem rawF_errors_As:rawF 32=false:=rfl
@[simp] theorem boxF_errors_As:boxF 32=false:=rfl
@[simp] theorem rawF_note_parser_value:rawF 33=false:=rfl
@[simp] theorem boxF_note_parser_value:boxF 33=false:=rfl
@[simp] theorem rawF_dioptreref11_Int:rawF 34=false:=rfl
@[simp] theorem boxF_dioptreref11_Int:boxF 34=false:=rfl
@[simp] theorem rawF_dioptreref03_Hex:rawF 35=false:=rfl
@[simp] theorem boxF_dioptreref03_Hex:boxF 35=false:=rfl
@[simp] theorem rawF_dioptreref11_Read:rawF 36=false:=rfl
@[simp] theorem boxF_dioptreref11_Read:boxF 36=false:=rfl
@[simp] theorem rawF_path_all:rawF 37=false:=rfl
@[simp] theorem boxF_path_all:boxF 37=false:=rfl
@[simp] theorem rawF_path_change:rawF 38=false:=rfl
@[simp] theorem boxF_path_change:boxF 38=false:=rfl
@[simp] theorem rawF_path_Get_1:rawF 39=false:=rfl
@[simp] theorem boxF_path_Get_1:boxF 39=false:=rfl
@[simp] theorem rawF_value_Copy:rawF 40=false:=rfl
@[simp] theorem boxF_value_Copy:boxF 40=false:=rfl
@[simp] theorem rawF_strconv_FormatBool:rawF 41=false:=rfl
@[simp] theorem boxF_strconv_FormatBool:boxF 41=false:=rfl
@[simp] theorem rawF_strconv_Itoa:rawF 42=false:=rfl
@[simp] theorem boxF_strconv_Itoa:boxF 42=false:=rfl
@[simp] theorem rawF_note_quote:rawF 43=false:=rfl
@[simp] theorem boxF_note_quote:boxF 43=false:=rfl
@[simp] theorem rawF_note_joined:rawF 44=false:=rfl
@[simp] theorem boxF_note_joined:boxF 44=false:=rfl
@[simp] theorem rawF_note_written_1:rawF 45=false:=rfl
@[simp] theorem boxF_note_written_1:boxF 45=false:=rfl
@[simp] theorem rawF_note_written_2:rawF 46=false:=rfl
@[simp] theorem boxF_note_written_2:boxF 46=false:=rfl
@[simp] theorem rawF_dioptreref08_Name:rawF 47=false:=rfl
@[simp] theorem boxF_dioptreref08_Name:boxF 47=false:=rfl
@[simp] theorem rawF_internal_strconv_FormatUint:rawF 48=false:=rfl
@[simp] theorem boxF_internal_strconv_FormatUint:boxF 48=false:=rfl
@[simp] theorem rawF_value_right:rawF 49=false:=rfl
@[simp] theorem boxF_value_right:boxF 49=false:=rfl
@[simp] theorem rawF_note_parser_skip:rawF 54=false:=rfl
@[simp] theorem boxF_note_parser_skip:boxF 54=false:=rfl
@[simp] theorem rawF_note_parser_until:rawF 55=false:=rfl
@[simp] theorem boxF_note_parser_until:boxF 55=false:=rfl
@[simp] theorem rawF_note_parser_text:rawF 56=false:=rfl
@[simp] theorem boxF_note_parser_text:boxF 56=false:=rfl
@[simp] theorem rawF_note_parser_list:rawF 57=false:=rfl
@[simp] theorem boxF_note_parser_list:boxF 57=false:=rfl
@[simp] theorem rawF_note_parser_value_1:rawF 58=false:=rfl
@[simp] theorem boxF_note_parser_value_1:boxF 58=false:=rfl
@[simp] theorem rawF_note_parser_want:rawF 59=false:=rfl
@[simp] theorem boxF_note_parser_want:boxF 59=false:=rfl
@[simp] theorem rawF_note_parser_value_2:rawF 60=false:=rfl
@[simp] theorem boxF_note_parser_value_2:boxF 60=false:=rfl
@[simp] theorem rawF_strconv_ParseUint:rawF 61=false:=rfl
@[simp] theorem boxF_strconv_ParseUint:boxF 61=false:=rfl
@[simp] theorem rawF_strconv_Atoi:rawF 62=false:=rfl
@[simp] theorem boxF_strconv_Atoi:boxF 62=false:=rfl
@[simp] theorem rawF_dioptreref11_hex:rawF 63=false:=rfl
@[simp] theorem boxF_dioptreref11_hex:boxF 63=false:=rfl
@[simp] theorem rawF_dioptreref11_parts:rawF 64=false:=rfl
@[simp] theorem boxF_dioptreref11_parts:boxF 64=false:=rfl
@[simp] theorem rawF_dioptreref11_cut:rawF 65=false:=rfl
@[simp] theorem boxF_dioptreref11_cut:boxF 65=false:=rfl
@[simp] theorem rawF_dioptreref11_number:rawF 66=false:=rfl
@[simp] theorem boxF_dioptreref11_number:boxF 66=false:=rfl
@[simp] theorem rawF_slices_Clip_api_Step:rawF 67=false:=rfl
@[simp] theorem boxF_slices_Clip_api_Step:boxF 67=false:=rfl
@[simp] theorem rawF_path_part:rawF 68=false:=rfl
@[simp] theorem boxF_path_part:boxF 68=false:=rfl
@[simp] theorem rawF_value_parts:rawF 69=false:=rfl
@[simp] theorem boxF_value_parts:boxF 69=false:=rfl
@[simp] theorem rawF_internal_strconv_FormatBool:rawF 70=false:=rfl
@[simp] theorem boxF_internal_strconv_FormatBool:boxF 70=false:=rfl
@[simp] theorem rawF_internal_strconv_Itoa:rawF 71=false:=rfl
@[simp] theorem boxF_internal_strconv_Itoa:boxF 71=false:=rfl
@[simp] theorem rawF_strings_Join:rawF 72=false:=rfl
@[simp] theorem boxF_strings_Join:boxF 72=false:=rfl
@[simp] theorem rawF_internal_strconv_small:rawF 73=false:=rfl
@[simp] theorem boxF_internal_strconv_small:boxF 73=false:=rfl
@[simp] theorem rawF_internal_strconv_numDigits:rawF 74=false:=rfl
@[simp] theorem boxF_internal_strconv_numDigits:boxF 74=false:=rfl
@[simp] theorem rawF_internal_strconv_formatBase10:rawF 75=true:=rfl
@[simp] theorem boxF_internal_strconv_formatBase10:boxF 75=false:=rfl
@[simp] theorem rawF_internal_strconv_formatBits:rawF 76=false:=rfl
@[simp] theorem boxF_internal_strconv_formatBits:boxF 76=false:=rfl
@[simp] theorem rawF_value_plain:rawF 77=false:=rfl
@[simp] theorem boxF_value_plain:boxF 77=false:=rfl
@[simp] theorem rawF_slices_ContainsFunc_api_Value:rawF 78=false:=rfl
@[simp] theorem boxF_slices_ContainsFunc_api_Value:boxF 78=false:=rfl
@[simp] theorem rawF_value_right_1:rawF 79=false:=rfl
@[simp] theorem boxF_value_right_1:boxF 79=false:=rfl
@[simp] theorem rawF_strings_CutPrefix:rawF 83=false:=rfl
@[simp] theorem boxF_strings_CutPrefix:boxF 83=false:=rfl
@[simp] theorem rawF_strings_IndexAny:rawF 84=false:=rfl
@[simp] theorem boxF_strings_IndexAny:boxF 84=false:=rfl
@[simp] theorem rawF_note_parser_hex:rawF 85=false:=rfl
@[simp] theorem boxF_note_parser_hex:boxF 85=false:=rfl
@[simp] theorem rawF_internal_strconv_ParseUint:rawF 86=false:=rfl
@[simp] theorem boxF_internal_strconv_ParseUint:boxF 86=false:=rfl
@[simp] theorem rawF_strconv_toError:rawF 87=false:=rfl
@[simp] theorem boxF_strconv_toError:boxF 87=false:=rfl
@[simp] theorem rawF_internal_strconv_Atoi:rawF 88=false:=rfl
@[simp] theorem boxF_internal_strconv_Atoi:boxF 88=false:=rfl
@[simp] theorem rawF_value_Elem:rawF 89=false:=rfl
@[simp] theorem boxF_value_Elem:boxF 89=false:=rfl
@[simp] theorem rawF_value_Field:rawF 90=false:=rfl
@[simp] theorem boxF_value_Field:boxF 90=false:=rfl
@[simp] theorem rawF_slices_Index_string:rawF 91=false:=rfl
@[simp] theorem boxF_slices_Index_string:boxF 91=false:=rfl
@[simp] theorem rawF_internal_strconv_FormatInt:rawF 92=false:=rfl
@[simp] theorem boxF_internal_strconv_FormatInt:boxF 92=false:=rfl
@[simp] theorem rawF_internal_strconv_log10Pow2:rawF 96=false:=rfl
@[simp] theorem boxF_internal_strconv_log10Pow2:boxF 96=false:=rfl
@[simp] theorem rawF_math_bits_Len64:rawF 97=false:=rfl
@[simp] theorem boxF_math_bits_Len64:boxF 97=false:=rfl
@[simp] theorem rawF_internal_strconv_bool2_int:rawF 98=false:=rfl
@[simp] theorem boxF_internal_strconv_bool2_int:boxF 98=false:=rfl
@[simp] theorem rawF_internal_strconv_isPowerOfTwo:rawF 99=false:=rfl
@[simp] theorem boxF_internal_strconv_isPowerOfTwo:boxF 99=false:=rfl
@[simp] theorem rawF_math_bits_TrailingZeros:rawF 100=false:=rfl
@[simp] theorem boxF_math_bits_TrailingZeros:boxF 100=false:=rfl
@[simp] theorem rawF_value_Name:rawF 101=false:=rfl
@[simp] theorem boxF_value_Name:boxF 101=false:=rfl
@[simp] theorem rawF_value_rising:rawF 102=false:=rfl
@[simp] theorem boxF_value_rising:boxF 102=false:=rfl
@[simp] theorem rawF_value_unlike:rawF 103=false:=rfl
@[simp] theorem boxF_value_unlike:boxF 103=false:=rfl
@[simp] theorem rawF_slices_IndexFunc_api_Value:rawF 104=false:=rfl
@[simp] theorem boxF_slices_IndexFunc_api_Value:boxF 104=false:=rfl
@[simp] theorem rawF_internal_stringslite_CutPrefix:rawF 105=false:=rfl
@[simp] theorem boxF_internal_stringslite_CutPrefix:boxF 105=false:=rfl
@[simp] theorem rawF_strings_IndexRune:rawF 106=false:=rfl
@[simp] theorem boxF_strings_IndexRune:boxF 106=false:=rfl
@[simp] theorem rawF_strings_shouldUseASCIISet:rawF 107=false:=rfl
@[simp] theorem boxF_strings_shouldUseASCIISet:boxF 107=false:=rfl
@[simp] theorem rawF_strings_makeASCIISet:rawF 108=false:=rfl
@[simp] theorem boxF_strings_makeASCIISet:boxF 108=false:=rfl
@[simp] theorem rawF_strings_asciiSet_contains:rawF 109=false:=rfl
@[simp] theorem boxF_strings_asciiSet_contains:boxF 109=false:=rfl
@[simp] theorem rawF_strings_IndexByte:rawF 110=false:=rfl
@[simp] theorem boxF_strings_IndexByte:boxF 110=false:=rfl
@[simp] theorem rawF_internal_strconv_lower:rawF 111=false:=rfl
@[simp] theorem boxF_internal_strconv_lower:boxF 111=false:=rfl
@[simp] theorem rawF_internal_strconv_underscoreOK:rawF 112=false:=rfl
@[simp] theorem boxF_internal_strconv_underscoreOK:boxF 112=false:=rfl
@[simp] theorem rawF_strconv_syntaxError:rawF 113=false:=rfl
@[simp] theorem boxF_strconv_syntaxError:boxF 113=false:=rfl
@[simp] theorem rawF_strconv_rangeError:rawF 114=false:=rfl
@[simp] theorem boxF_strconv_rangeError:boxF 114=false:=rfl
@[simp] theorem rawF_strconv_baseError:rawF 115=false:=rfl
@[simp] theorem boxF_strconv_baseError:boxF 115=false:=rfl
@[simp] theorem rawF_strconv_bitSizeError:rawF 116=false:=rfl
@[simp] theorem boxF_strconv_bitSizeError:boxF 116=false:=rfl
@[simp] theorem rawF_internal_strconv_ParseInt:rawF 117=false:=rfl
@[simp] theorem boxF_internal_strconv_ParseInt:boxF 117=false:=rfl
@[simp] theorem rawF_slices_Index_uint64:rawF 118=false:=rfl
@[simp] theorem boxF_slices_Index_uint64:boxF 118=false:=rfl
@[simp] theorem rawF_value_whole:rawF 119=false:=rfl
@[simp] theorem boxF_value_whole:boxF 119=false:=rfl
@[simp] theorem rawF_math_bits_TrailingZeros32:rawF 122=false:=rfl
@[simp] theorem boxF_math_bits_TrailingZeros32:boxF 122=false:=rfl
@[simp] theorem rawF_math_bits_TrailingZeros64:rawF 123=false:=rfl
@[simp] theorem boxF_math_bits_TrailingZeros64:boxF 123=false:=rfl
@[simp] theorem rawF_strings_IndexFunc:rawF 124=false:=rfl
@[simp] theorem boxF_strings_IndexFunc:boxF 124=false:=rfl
@[simp] theorem rawF_value_Name_1:rawF 125=false:=rfl
@[simp] theorem boxF_value_Name_1:boxF 125=false:=rfl
@[simp] theorem rawF_slices_Contains_uint64:rawF 126=false:=rfl
@[simp] theorem boxF_slices_Contains_uint64:boxF 126=false:=rfl
@[simp] theorem rawF_internal_stringslite_HasPrefix:rawF 127=false:=rfl
@[simp] theorem boxF_internal_stringslite_HasPrefix:boxF 127=false:=rfl
@[simp] theorem rawF_unicode_utf8_ValidRune:rawF 128=false:=rfl
@[simp] theorem boxF_unicode_utf8_ValidRune:boxF 128=false:=rfl
@[simp] theorem rawF_internal_bytealg_Cutover:rawF 129=false:=rfl
@[simp] theorem boxF_internal_bytealg_Cutover:boxF 129=false:=rfl
@[simp] theorem rawF_internal_bytealg_IndexString:rawF 130=false:=rfl
@[simp] theorem boxF_internal_bytealg_IndexString:boxF 130=false:=rfl
@[simp] theorem rawF_internal_stringslite_IndexByte:rawF 131=false:=rfl
@[simp] theorem boxF_internal_stringslite_IndexByte:boxF 131=false:=rfl
@[simp] theorem rawF_internal_stringslite_Clone:rawF 132=false:=rfl
@[simp] theorem boxF_internal_stringslite_Clone:boxF 132=false:=rfl
@[simp] theorem rawF_errors_New:rawF 133=false:=rfl
@[simp] theorem boxF_errors_New:boxF 133=false:=rfl
@[simp] theorem rawF_strings_indexFunc:rawF 136=false:=rfl
@[simp] theorem boxF_strings_indexFunc:boxF 136=false:=rfl
end Go.Proofs.YtekgdmhdkhgpjaaGreatDoor.am

set_option linter.unusedSimpArgs false
namespace Go.Proofs.YtekgdmhdkhgpjaaGreatDoor.am
open Go
def bl:List UInt8 → List UInt8 → Bool
  | _,[] => false
  | [],_ :: _ => true
  | a :: x,b :: y => if a=b then bl x y else decide (a < b)
theorem bl_irrefl:∀ x,bl x x=false
  | [] => rfl
  | a :: x => by simp [bl,bl_irrefl x]
theorem bl_trans:∀ x y z,bl x y=true → bl y z=true → bl x z=true
  | [],[],_,h,_ => by simp [bl] at h
  | [],_ :: _,[],_,k => by simp [bl] at k
  | [],_ :: _,_ :: _,_,_ => rfl
  | _ :: _,[],_,h,_ => by simp [bl] at h
  | _ :: _,_ :: _,[],_,k => by simp [bl] at k
  | a :: x,b :: y,c :: z,h,k => by
    have ih:=bl_trans x y z
    simp only [bl] at h k ⊢
    by_cases e1:a=b
    · subst e1
      by_cases e2:a=c
      · subst e2
        simp only [if_true] at h k ⊢
        exact ih h k
      · simpa only [if_neg e2] using k
    · by_cases e2:b=c
      · subst e2
        simpa only [if_neg e1] using h
      · simp only [if_neg e1,decide_eq_true_eq] at h
        simp only [if_neg e2,decide_eq_true_eq] at k
        have h3:a < c:=UInt8.lt_trans h k
        have e3:a ≠ c:=fun e => by subst e; exact absurd h3 (by simp)
        simp [e3,h3]
theorem bl_total:∀ x y,x ≠ y → bl x y=false → bl y x=true
  | [],[],h,_ => (h rfl).elim
  | [],_ :: _,_,k => by simp [bl] at k
  | _ :: _,[],_,_ => rfl
  | a :: x,b :: y,h,k => by
    have ih:=bl_total x y
    simp only [bl] at k ⊢
    by_cases e:a=b
    · subst e
      simp only [if_true] at k ⊢
      exact ih (fun e => h (by rw [e])) k
    · simp only [if_neg e,decide_eq_false_iff_not,UInt8.not_lt] at k
      have e':b ≠ a:=fun e' => e e'.symm
      simp only [if_neg e',decide_eq_true_eq]
      exact UInt8.lt_of_le_of_ne k e'
theorem bl_asymm {x y:List UInt8} (h:bl x y=true):bl y x=false:=by
  cases k:bl y x
  · rfl
  · have:=bl_trans x y x h k
    rw [bl_irrefl] at this
    cases this
end Go.Proofs.YtekgdmhdkhgpjaaGreatDoor.am

namespace Go.Proofs.YtekgdmhdkhgpjaaGreatDoor.am
open Go
def idxL:List UInt8 → Int → Nat → Int
  | [],_,_ => -1
  | b :: r,c,k => if (b.toNat:Int)=c then k else idxL r c (k + 1)
def idxByteP (args:List AV) (S:St):Option (AV × St):=match args with
  | [.str s,.int .u8 c] => if 0 ≤ c ∧ c < 256 then some (.int .i64 (idxL s c 0),S) else none
  | _ => none
def strsOf:List (List AV) → Option (List (List UInt8))
  | [] => some []
  | [.str s] :: r => (strsOf r).map (s :: ·)
  | _ => none
def joinL (sep:List UInt8):List (List UInt8) → List UInt8
  | [] => []
  | [s] => s
  | s :: r => s ++ (sep ++ joinL sep r)
def joinP (args:List AV) (S:St):Option (AV × St):=match args with
  | [.nils,.str _] => some (.str [],S)
  | [.sl _ _ es,.str sep] => match strsOf es with
    | some l => if l.length ≤ 1048576 ∧ (joinL sep l).length ≤ 1073741824 then some (.str (joinL sep l),S) else none
    | none => none
  | _ => none
def cloneP (args:List AV) (S:St):Option (AV × St):=match args with
  | [.str s] => if s.length ≤ 1073741824 then some (.str s,S) else none
  | _ => none
def errNum (te:TypeId):AV → Option Int
  | .ifc t (.int .i64 n) => if t=te then some n else none
  | _ => none
def asP (tp te:TypeId) (args:List AV) (S:St):Option (AV × St):=match args with
  | [e,.ifc t (.ptr i 0)] => if t=tp then match errNum te e,S[i]? with
      | some n,some (.mem [.int .i64 _] bt false) => some (.bool true,S.set i (.mem [.int .i64 n] bt false))
      | _,_ => none
    else none
  | _ => none
end Go.Proofs.YtekgdmhdkhgpjaaGreatDoor.am

namespace Go.Proofs.YtekgdmhdkhgpjaaGreatDoor.am
open Go
abbrev Prim:=List AV → St → Option (AV × St)
def prims:List (FuncId × Prim) :=
(131,idxByteP) ::
(72,joinP) ::
(132,cloneP) ::
(32,asP 59 57) ::
  []
def nk:NK:=⟨fun _ => false,fun f => prims.lookup f⟩
@[simp] theorem nk_keep (f:FuncId):nk.keep f=false:=rfl
end Go.Proofs.YtekgdmhdkhgpjaaGreatDoor.am

namespace Go.Proofs.YtekgdmhdkhgpjaaGreatDoor.am
open Go
@[simp] theorem nkp_dioptrelaw11_NoteParses:nk.prim 7=none:=rfl
@[simp] theorem nkp_dioptrelaw11_awake:nk.prim 9=none:=rfl
@[simp] theorem nkp_note_Lines:nk.prim 10=none:=rfl
@[simp] theorem nkp_dioptreref08_Right:nk.prim 11=none:=rfl
@[simp] theorem nkp_dioptreref11_Same:nk.prim 12=none:=rfl
@[simp] theorem nkp_note_PathText:nk.prim 15=none:=rfl
@[simp] theorem nkp_note_Print:nk.prim 17=none:=rfl
@[simp] theorem nkp_dioptreref08_Same:nk.prim 18=none:=rfl
@[simp] theorem nkp_dioptrelaw01_Code:nk.prim 19=none:=rfl
@[simp] theorem nkp_note_Parse:nk.prim 20=none:=rfl
@[simp] theorem nkp_dioptreref11_Text:nk.prim 21=none:=rfl
@[simp] theorem nkp_dioptreref11_Parse:nk.prim 22=none:=rfl
@[simp] theorem nkp_path_All:nk.prim 24=none:=rfl
@[simp] theorem nkp_path_Get:nk.prim 25=none:=rfl
@[simp] theorem nkp_note_written:nk.prim 26=none:=rfl
@[simp] theorem nkp_dioptreref08_Depth:nk.prim 27=none:=rfl
@[simp] theorem nkp_dioptreref08_sound:nk.prim 28=none:=rfl
@[simp] theorem nkp_strconv_FormatUint:nk.prim 29=none:=rfl
@[simp] theorem nkp_dioptreref11_Number:nk.prim 30=none:=rfl
@[simp] theorem nkp_value_Right:nk.prim 31=none:=rfl
@[simp] theorem nkp_errors_As:nk.prim 32=some (asP 59 57):=rfl
@[simp] theorem nkp_note_parser_value:nk.prim 33=none:=rfl
@[simp] theorem nkp_dioptreref11_Int:nk.prim 34=none:=rfl
@[simp] theorem nkp_dioptreref03_Hex:nk.prim 35=none:=rfl
@[simp] theorem nkp_dioptreref11_Read:nk.prim 36=none:=rfl
@[simp] theorem nkp_path_all:nk.prim 37=none:=rfl
@[simp] theorem nkp_path_change:nk.prim 38=none:=rfl
@[simp] theorem nkp_path_Get_1:nk.prim 39=none:=rfl
@[simp] theorem nkp_value_Copy:nk.prim 40=none:=rfl
@[simp] theorem nkp_strconv_FormatBool:nk.prim 41=none:=rfl
@[simp] theorem nkp_strconv_Itoa:nk.prim 42=none:=rfl
@[simp] theorem nkp_note_quote:nk.prim 43=none:=rfl
@[simp] theorem nkp_note_joined:nk.prim 44=none:=rfl
@[simp] theorem nkp_note_written_1:nk.prim 45=none:=rfl
@[simp] theorem nkp_note_written_2:nk.prim 46=none:=rfl
@[simp] theorem nkp_dioptreref08_Name:nk.prim 47=none:=rfl
@[simp] theorem nkp_internal_strconv_FormatUint:nk.prim 48=none:=rfl
@[simp] theorem nkp_value_right:nk.prim 49=none:=rfl
@[simp] theorem nkp_note_parser_skip:nk.prim 54=none:=rfl
@[simp] theorem nkp_note_parser_until:nk.prim 55=none:=rfl
@[simp] theorem nkp_note_parser_text:nk.prim 56=none:=rfl
@[simp] theorem nkp_note_parser_list:nk.prim 57=none:=rfl
@[simp] theorem nkp_note_parser_value_1:nk.prim 58=none:=rfl
@[simp] theorem nkp_note_parser_want:nk.prim 59=none:=rfl
@[simp] theorem nkp_note_parser_value_2:nk.prim 60=none:=rfl
@[simp] theorem nkp_strconv_ParseUint:nk.prim 61=none:=rfl
@[simp] theorem nkp_strconv_Atoi:nk.prim 62=none:=rfl
@[simp] theorem nkp_dioptreref11_hex:nk.prim 63=none:=rfl
@[simp] theorem nkp_dioptreref11_parts:nk.prim 64=none:=rfl
@[simp] theorem nkp_dioptreref11_cut:nk.prim 65=none:=rfl
@[simp] theorem nkp_dioptreref11_number:nk.prim 66=none:=rfl
@[simp] theorem nkp_slices_Clip_api_Step:nk.prim 67=none:=rfl
@[simp] theorem nkp_path_part:nk.prim 68=none:=rfl
@[simp] theorem nkp_value_parts:nk.prim 69=none:=rfl
@[simp] theorem nkp_internal_strconv_FormatBool:nk.prim 70=none:=rfl
@[simp] theorem nkp_internal_strconv_Itoa:nk.prim 71=none:=rfl
@[simp] theorem nkp_strings_Join:nk.prim 72=some joinP:=rfl
@[simp] theorem nkp_internal_strconv_small:nk.prim 73=none:=rfl
@[simp] theorem nkp_internal_strconv_numDigits:nk.prim 74=none:=rfl
@[simp] theorem nkp_internal_strconv_formatBase10:nk.prim 75=none:=rfl
@[simp] theorem nkp_internal_strconv_formatBits:nk.prim 76=none:=rfl
@[simp] theorem nkp_value_plain:nk.prim 77=none:=rfl
@[simp] theorem nkp_slices_ContainsFunc_api_Value:nk.prim 78=none:=rfl
@[simp] theorem nkp_value_right_1:nk.prim 79=none:=rfl
@[simp] theorem nkp_strings_CutPrefix:nk.prim 83=none:=rfl
@[simp] theorem nkp_strings_IndexAny:nk.prim 84=none:=rfl
@[simp] theorem nkp_note_parser_hex:nk.prim 85=none:=rfl
@[simp] theorem nkp_internal_strconv_ParseUint:nk.prim 86=none:=rfl
@[simp] theorem nkp_strconv_toError:nk.prim 87=none:=rfl
@[simp] theorem nkp_internal_strconv_Atoi:nk.prim 88=none:=rfl
@[simp] theorem nkp_value_Elem:nk.prim 89=none:=rfl
@[simp] theorem nkp_value_Field:nk.prim 90=none:=rfl
@[simp] theorem nkp_slices_Index_string:nk.prim 91=none:=rfl
@[simp] theorem nkp_internal_strconv_FormatInt:nk.prim 92=none:=rfl
@[simp] theorem nkp_internal_strconv_log10Pow2:nk.prim 96=none:=rfl
@[simp] theorem nkp_math_bits_Len64:nk.prim 97=none:=rfl
@[simp] theorem nkp_internal_strconv_bool2_int:nk.prim 98=none:=rfl
@[simp] theorem nkp_internal_strconv_isPowerOfTwo:nk.prim 99=none:=rfl
@[simp] theorem nkp_math_bits_TrailingZeros:nk.prim 100=none:=rfl
@[simp] theorem nkp_value_Name:nk.prim 101=none:=rfl
@[simp] theorem nkp_value_rising:nk.prim 102=none:=rfl
@[simp] theorem nkp_value_unlike:nk.prim 103=none:=rfl
@[simp] theorem nkp_slices_IndexFunc_api_Value:nk.prim 104=none:=rfl
@[simp] theorem nkp_internal_stringslite_CutPrefix:nk.prim 105=none:=rfl
@[simp] theorem nkp_strings_IndexRune:nk.prim 106=none:=rfl
@[simp] theorem nkp_strings_shouldUseASCIISet:nk.prim 107=none:=rfl
@[simp] theorem nkp_strings_makeASCIISet:nk.prim 108=none:=rfl
@[simp] theorem nkp_strings_asciiSet_contains:nk.prim 109=none:=rfl
@[simp] theorem nkp_strings_IndexByte:nk.prim 110=none:=rfl
@[simp] theorem nkp_internal_strconv_lower:nk.prim 111=none:=rfl
@[simp] theorem nkp_internal_strconv_underscoreOK:nk.prim 112=none:=rfl
@[simp] theorem nkp_strconv_syntaxError:nk.prim 113=none:=rfl
@[simp] theorem nkp_strconv_rangeError:nk.prim 114=none:=rfl
@[simp] theorem nkp_strconv_baseError:nk.prim 115=none:=rfl
@[simp] theorem nkp_strconv_bitSizeError:nk.prim 116=none:=rfl
@[simp] theorem nkp_internal_strconv_ParseInt:nk.prim 117=none:=rfl
@[simp] theorem nkp_slices_Index_uint64:nk.prim 118=none:=rfl
@[simp] theorem nkp_value_whole:nk.prim 119=none:=rfl
@[simp] theorem nkp_math_bits_TrailingZeros32:nk.prim 122=none:=rfl
@[simp] theorem nkp_math_bits_TrailingZeros64:nk.prim 123=none:=rfl
@[simp] theorem nkp_strings_IndexFunc:nk.prim 124=none:=rfl
@[simp] theorem nkp_value_Name_1:nk.prim 125=none:=rfl
@[simp] theorem nkp_slices_Contains_uint64:nk.prim 126=none:=rfl
@[simp] theorem nkp_internal_stringslite_HasPrefix:nk.prim 127=none:=rfl
@[simp] theorem nkp_unicode_utf8_ValidRune:nk.prim 128=none:=rfl
@[simp] theorem nkp_internal_bytealg_Cutover:nk.prim 129=none:=rfl
@[simp] theorem nkp_internal_bytealg_IndexString:nk.prim 130=none:=rfl
@[simp] theorem nkp_internal_stringslite_IndexByte:nk.prim 131=some idxByteP:=rfl
@[simp] theorem nkp_internal_stringslite_Clone:nk.prim 132=some cloneP:=rfl
@[simp] theorem nkp_errors_New:nk.prim 133=none:=rfl
@[simp] theorem nkp_strings_indexFunc:nk.prim 136=none:=rfl
end Go.Proofs.YtekgdmhdkhgpjaaGreatDoor.am
