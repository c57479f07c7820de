/- Several texts, one behind the other: The table of the functions' smaller code, printed by a program (tools/gen.py). Lists of names in their order, each once: what they are, in plain words; and the answer of entry.Sort, known otherwise. Which functions of the library are answered otherwise than by their code. Definitions alone. Which functions are answered otherwise, printed by a program (tools/gen.py). -/
import Derived.Test.YtmibdjbhjjafnaaGreatNE
import Derived.Test.YtmibdjbhjjafnaaGreatNF
import Derived.Test.YtmibdjbhjjafnaaGreatNC4
import Derived.Test.YtmibdjbhjjafnaaGreatND
set_option linter.unusedSimpArgs false
set_option linter.unusedVariables false
/- The table of the functions' smaller code, printed by a program (tools/gen.py). -/
namespace Go.Proofs.YtmibdjbhjjafnaaGreat.am
open Go
def tbl : List (Option KF) := [none, none, none, some k_dioptrelaw17_EntrySame, some k_dioptrelaw17_EntrySorts, some k_dioptrelaw17_Great, some k_dioptrelaw17_awake, some k_entry_Same, some k_dioptreref17_Same, some k_entry_Sort, some k_entry_Seed, some k_entry_Less, some k_dioptreref17_Less, some k_dioptrelaw12_Great, some k_dioptrelaw14_Great, some k_entry_Encode, some k_slices_Equal_api_Hash, some k_op_Same, some k_lens_Same, some k_dioptreref12_Same, some k_dioptreref14_Same, some k_slices_SortFunc_api_Hash, some k_entry_Sort_1, some k_slices_Compare_byte, some k_slices_Compact_api_Hash, some k_dioptrelaw10_Great, some k_dioptrelaw08_Great, some k_dioptrelaw14_room, some k_entry_sound, some k_entry_body, some k_slices_Equal_api_Step, some k_value_Same, some k_schema_Same, some k_slices_EqualFunc_api_Pair, some k_lens_Same_1, some k_slices_EqualFunc_api_Lens, some k_dioptreref10_Same, some k_dioptreref08_Same, some k_dioptreref09_Same, some k_slices_pdqsortCmpFunc_api_Hash, some k_math_bits_Len, some k_cmp_Compare_byte, some k_dioptrelaw08_room, some k_dioptrelaw09_Great, some k_entry_rising, some k_op_Right, some k_lens_Right, some k_pack_Writer_Byte, some k_pack_Writer_Raw, some k_pack_Writer_Number, some k_op_Encode, some k_lens_Encode, some k_pack_Writer_Out, some k_slices_Equal_string, some k_slices_Equal_uint64, some k_slices_EqualFunc_api_Value, some k_slices_EqualFunc_api_Schema, some k_slices_insertionSortCmpFunc_api_Hash, none, none, none, none, none, none, none, none, some k_math_bits_Len64, some k_cmp_isNaN_byte, some k_dioptrelaw09_room, some k_path_Right, some k_value_Right, some k_lens_right, some k_value_Encode, some k_op_write, some k_lens_uses, some k_lens_long, some k_lens_write, none, none, none, none, none, some k_slices_ContainsFunc_api_Step, some k_path_Right_1, some k_path_fine, some k_value_right, some k_value_Name, some k_lens_zero, some k_lens_typed, some k_lens_paired, some k_value_write, some k_path_Write, some k_schema_Encode, some k_pack_Writer_Text, some k_lens_values, none, some k_slices_IndexFunc_api_Step, some k_value_plain, some k_slices_ContainsFunc_api_Value, some k_value_right_1, some k_strings_IndexFunc, some k_value_Name_1, some k_schema_Fits, some k_schema_Scalar, some k_lens_scalar, some k_slices_ContainsFunc_api_Pair, some k_lens_paired_1, some k_pack_Writer_Bool, some k_pack_Writer_Int, some k_schema_Right, some k_schema_write, some k_pack_Writer_Bytes, some k_value_rising, some k_value_unlike, some k_slices_IndexFunc_api_Value, some k_strings_indexFunc, some k_schema_fits, some k_slices_IndexFunc_api_Pair, some k_schema_right, some k_slices_Contains_uint64, some k_slices_Contains_string, some k_schema_plain, some k_slices_ContainsFunc_api_Schema, some k_schema_right_1, some k_slices_Index_uint64, some k_slices_Index_string, some k_schema_names, some k_schema_unlike, some k_schema_rising, some k_slices_IndexFunc_api_Schema, some k_slices_ContainsFunc_string, some k_schema_names_1, some k_slices_IsSorted_string, some k_slices_IndexFunc_string, some k_cmp_Less_string, some k_cmp_isNaN_string]
def lib : FuncId → Option KF := fun f => (tbl[f]?).join
theorem lib_ok : ∀ f k, lib f = some k → ∃ fn, Tryz.prog.funcs[f]? = some fn ∧ KOK Tryz.prog fn k := by
  have h : AllOK Tryz.prog 0 tbl := ⟨trivial, trivial, trivial, ⟨_, Tryz.func3, ok_dioptrelaw17_EntrySame⟩, ⟨_, Tryz.func4, ok_dioptrelaw17_EntrySorts⟩, ⟨_, Tryz.func5, ok_dioptrelaw17_Great⟩, ⟨_, Tryz.func6, ok_dioptrelaw17_awake⟩, ⟨_, Tryz.func7, ok_entry_Same⟩, ⟨_, Tryz.func8, ok_dioptreref17_Same⟩, ⟨_, Tryz.func9, ok_entry_Sort⟩, ⟨_, Tryz.func10, ok_entry_Seed⟩, ⟨_, Tryz.func11, ok_entry_Less⟩, ⟨_, Tryz.func12, ok_dioptreref17_Less⟩, ⟨_, Tryz.func13, ok_dioptrelaw12_Great⟩, ⟨_, Tryz.func14, ok_dioptrelaw14_Great⟩, ⟨_, Tryz.func15, ok_entry_Encode⟩, ⟨_, Tryz.func16, ok_slices_Equal_api_Hash⟩, ⟨_, Tryz.func17, ok_op_Same⟩, ⟨_, Tryz.func18, ok_lens_Same⟩, ⟨_, Tryz.func19, ok_dioptreref12_Same⟩, ⟨_, Tryz.func20, ok_dioptreref14_Same⟩, ⟨_, Tryz.func21, ok_slices_SortFunc_api_Hash⟩, ⟨_, Tryz.func22, ok_entry_Sort_1⟩, ⟨_, Tryz.func23, ok_slices_Compare_byte⟩, ⟨_, Tryz.func24, ok_slices_Compact_api_Hash⟩, ⟨_, Tryz.func25, ok_dioptrelaw10_Great⟩, ⟨_, Tryz.func26, ok_dioptrelaw08_Great⟩, ⟨_, Tryz.func27, ok_dioptrelaw14_room⟩, ⟨_, Tryz.func28, ok_entry_sound⟩, ⟨_, Tryz.func29, ok_entry_body⟩, ⟨_, Tryz.func30, ok_slices_Equal_api_Step⟩, ⟨_, Tryz.func31, ok_value_Same⟩, ⟨_, Tryz.func32, ok_schema_Same⟩, ⟨_, Tryz.func33, ok_slices_EqualFunc_api_Pair⟩, ⟨_, Tryz.func34, ok_lens_Same_1⟩, ⟨_, Tryz.func35, ok_slices_EqualFunc_api_Lens⟩, ⟨_, Tryz.func36, ok_dioptreref10_Same⟩, ⟨_, Tryz.func37, ok_dioptreref08_Same⟩, ⟨_, Tryz.func38, ok_dioptreref09_Same⟩, ⟨_, Tryz.func39, ok_slices_pdqsortCmpFunc_api_Hash⟩, ⟨_, Tryz.func40, ok_math_bits_Len⟩, ⟨_, Tryz.func41, ok_cmp_Compare_byte⟩, ⟨_, Tryz.func42, ok_dioptrelaw08_room⟩, ⟨_, Tryz.func43, ok_dioptrelaw09_Great⟩, ⟨_, Tryz.func44, ok_entry_rising⟩, ⟨_, Tryz.func45, ok_op_Right⟩, ⟨_, Tryz.func46, ok_lens_Right⟩, ⟨_, Tryz.func47, ok_pack_Writer_Byte⟩, ⟨_, Tryz.func48, ok_pack_Writer_Raw⟩, ⟨_, Tryz.func49, ok_pack_Writer_Number⟩, ⟨_, Tryz.func50, ok_op_Encode⟩, ⟨_, Tryz.func51, ok_lens_Encode⟩, ⟨_, Tryz.func52, ok_pack_Writer_Out⟩, ⟨_, Tryz.func53, ok_slices_Equal_string⟩, ⟨_, Tryz.func54, ok_slices_Equal_uint64⟩, ⟨_, Tryz.func55, ok_slices_EqualFunc_api_Value⟩, ⟨_, Tryz.func56, ok_slices_EqualFunc_api_Schema⟩, ⟨_, Tryz.func57, ok_slices_insertionSortCmpFunc_api_Hash⟩, trivial, trivial, trivial, trivial, trivial, trivial, trivial, trivial, ⟨_, Tryz.func66, ok_math_bits_Len64⟩, ⟨_, Tryz.func67, ok_cmp_isNaN_byte⟩, ⟨_, Tryz.func68, ok_dioptrelaw09_room⟩, ⟨_, Tryz.func69, ok_path_Right⟩, ⟨_, Tryz.func70, ok_value_Right⟩, ⟨_, Tryz.func71, ok_lens_right⟩, ⟨_, Tryz.func72, ok_value_Encode⟩, ⟨_, Tryz.func73, ok_op_write⟩, ⟨_, Tryz.func74, ok_lens_uses⟩, ⟨_, Tryz.func75, ok_lens_long⟩, ⟨_, Tryz.func76, ok_lens_write⟩, trivial, trivial, trivial, trivial, trivial, ⟨_, Tryz.func82, ok_slices_ContainsFunc_api_Step⟩, ⟨_, Tryz.func83, ok_path_Right_1⟩, ⟨_, Tryz.func84, ok_path_fine⟩, ⟨_, Tryz.func85, ok_value_right⟩, ⟨_, Tryz.func86, ok_value_Name⟩, ⟨_, Tryz.func87, ok_lens_zero⟩, ⟨_, Tryz.func88, ok_lens_typed⟩, ⟨_, Tryz.func89, ok_lens_paired⟩, ⟨_, Tryz.func90, ok_value_write⟩, ⟨_, Tryz.func91, ok_path_Write⟩, ⟨_, Tryz.func92, ok_schema_Encode⟩, ⟨_, Tryz.func93, ok_pack_Writer_Text⟩, ⟨_, Tryz.func94, ok_lens_values⟩, trivial, ⟨_, Tryz.func96, ok_slices_IndexFunc_api_Step⟩, ⟨_, Tryz.func97, ok_value_plain⟩, ⟨_, Tryz.func98, ok_slices_ContainsFunc_api_Value⟩, ⟨_, Tryz.func99, ok_value_right_1⟩, ⟨_, Tryz.func100, ok_strings_IndexFunc⟩, ⟨_, Tryz.func101, ok_value_Name_1⟩, ⟨_, Tryz.func102, ok_schema_Fits⟩, ⟨_, Tryz.func103, ok_schema_Scalar⟩, ⟨_, Tryz.func104, ok_lens_scalar⟩, ⟨_, Tryz.func105, ok_slices_ContainsFunc_api_Pair⟩, ⟨_, Tryz.func106, ok_lens_paired_1⟩, ⟨_, Tryz.func107, ok_pack_Writer_Bool⟩, ⟨_, Tryz.func108, ok_pack_Writer_Int⟩, ⟨_, Tryz.func109, ok_schema_Right⟩, ⟨_, Tryz.func110, ok_schema_write⟩, ⟨_, Tryz.func111, ok_pack_Writer_Bytes⟩, ⟨_, Tryz.func112, ok_value_rising⟩, ⟨_, Tryz.func113, ok_value_unlike⟩, ⟨_, Tryz.func114, ok_slices_IndexFunc_api_Value⟩, ⟨_, Tryz.func115, ok_strings_indexFunc⟩, ⟨_, Tryz.func116, ok_schema_fits⟩, ⟨_, Tryz.func117, ok_slices_IndexFunc_api_Pair⟩, ⟨_, Tryz.func118, ok_schema_right⟩, ⟨_, Tryz.func119, ok_slices_Contains_uint64⟩, ⟨_, Tryz.func120, ok_slices_Contains_string⟩, ⟨_, Tryz.func121, ok_schema_plain⟩, ⟨_, Tryz.func122, ok_slices_ContainsFunc_api_Schema⟩, ⟨_, Tryz.func123, ok_schema_right_1⟩, ⟨_, Tryz.func124, ok_slices_Index_uint64⟩, ⟨_, Tryz.func125, ok_slices_Index_string⟩, ⟨_, Tryz.func126, ok_schema_names⟩, ⟨_, Tryz.func127, ok_schema_unlike⟩, ⟨_, Tryz.func128, ok_schema_rising⟩, ⟨_, Tryz.func129, ok_slices_IndexFunc_api_Schema⟩, ⟨_, Tryz.func130, ok_slices_ContainsFunc_string⟩, ⟨_, Tryz.func131, ok_schema_names_1⟩, ⟨_, Tryz.func132, ok_slices_IsSorted_string⟩, ⟨_, Tryz.func133, ok_slices_IndexFunc_string⟩, ⟨_, Tryz.func134, ok_cmp_Less_string⟩, ⟨_, Tryz.func135, ok_cmp_isNaN_string⟩, trivial⟩
  exact fun f k e => allOK_get h e
theorem run_dioptrelaw17_EntrySame {nk : NK} (a0 a1 : AV) (S : St) : DF lib nk 3 [a0, a1] S = doneK 3 [(.tmp 4)] S (DC lib nk c_dioptrelaw17_EntrySame ⟨[(0, a0), (1, a1)], [], S.length⟩ S) := DF_run (lib := lib) (f := 3) (k := k_dioptrelaw17_EntrySame) rfl (Nat.le_of_ble_eq_true rfl) S
theorem run_dioptrelaw17_EntrySorts {nk : NK} (a0 : AV) (S : St) : DF lib nk 4 [a0] S = doneK 4 [(.tmp 2)] S (DC lib nk c_dioptrelaw17_EntrySorts ⟨[(0, a0)], [], S.length⟩ S) := DF_run (lib := lib) (f := 4) (k := k_dioptrelaw17_EntrySorts) rfl (Nat.le_of_ble_eq_true rfl) S
theorem run_dioptrelaw17_Great {nk : NK} (a0 : AV) (S : St) : DF lib nk 5 [a0] S = doneK 5 [(.tmp 2)] S (DC lib nk c_dioptrelaw17_Great ⟨[(0, a0)], [], S.length⟩ S) := DF_run (lib := lib) (f := 5) (k := k_dioptrelaw17_Great) rfl (Nat.le_of_ble_eq_true rfl) S
theorem run_dioptrelaw17_awake {nk : NK} (S : St) : DF lib nk 6 [] S = doneK 6 [(.tmp 0)] S (DC lib nk c_dioptrelaw17_awake ⟨[], [], S.length⟩ S) := DF_run (lib := lib) (f := 6) (k := k_dioptrelaw17_awake) rfl (Nat.le_of_ble_eq_true rfl) S
theorem run_entry_Same {nk : NK} (a0 a1 : AV) (S : St) : DF lib nk 7 [a0, a1] S = doneK 7 [(.tmp 4)] S (DC lib nk c_entry_Same ⟨[(0, a0), (1, a1)], [], S.length⟩ S) := DF_run (lib := lib) (f := 7) (k := k_entry_Same) rfl (Nat.le_of_ble_eq_true rfl) S
theorem run_dioptreref17_Same {nk : NK} (a0 a1 : AV) (S : St) : DF lib nk 8 [a0, a1] S = doneK 8 [(.tmp 4)] S (DC lib nk c_dioptreref17_Same ⟨[(0, a0), (1, a1)], [], S.length⟩ S) := DF_run (lib := lib) (f := 8) (k := k_dioptreref17_Same) rfl (Nat.le_of_ble_eq_true rfl) S
theorem run_entry_Sort {nk : NK} (a0 : AV) (S : St) : DF lib nk 9 [a0] S = doneK 9 [(.tmp 2)] S (DC lib nk c_entry_Sort ⟨[(0, a0)], [], S.length⟩ S) := DF_run (lib := lib) (f := 9) (k := k_entry_Sort) rfl (Nat.le_of_ble_eq_true rfl) S
theorem run_entry_Seed {nk : NK} (a0 : AV) (S : St) : DF lib nk 10 [a0] S = doneK 10 [(.tmp 2)] S (DC lib nk c_entry_Seed ⟨[(0, a0)], [], S.length⟩ S) := DF_run (lib := lib) (f := 10) (k := k_entry_Seed) rfl (Nat.le_of_ble_eq_true rfl) S
theorem run_entry_Less {nk : NK} (a0 a1 : AV) (S : St) : DF lib nk 11 [a0, a1] S = doneK 11 [(.tmp 4)] S (DC lib nk c_entry_Less ⟨[(0, a0), (1, a1)], [], S.length⟩ S) := DF_run (lib := lib) (f := 11) (k := k_entry_Less) rfl (Nat.le_of_ble_eq_true rfl) S
theorem run_dioptreref17_Less {nk : NK} (a0 a1 : AV) (S : St) : DF lib nk 12 [a0, a1] S = doneK 12 [(.tmp 4)] S (DC lib nk c_dioptreref17_Less ⟨[(0, a0), (1, a1)], [], S.length⟩ S) := DF_run (lib := lib) (f := 12) (k := k_dioptreref17_Less) rfl (Nat.le_of_ble_eq_true rfl) S
theorem run_dioptrelaw12_Great {nk : NK} (a0 : AV) (S : St) : DF lib nk 13 [a0] S = doneK 13 [(.tmp 2)] S (DC lib nk c_dioptrelaw12_Great ⟨[(0, a0)], [], S.length⟩ S) := DF_run (lib := lib) (f := 13) (k := k_dioptrelaw12_Great) rfl (Nat.le_of_ble_eq_true rfl) S
theorem run_dioptrelaw14_Great {nk : NK} (a0 : AV) (S : St) : DF lib nk 14 [a0] S = doneK 14 [(.tmp 2)] S (DC lib nk c_dioptrelaw14_Great ⟨[(0, a0)], [], S.length⟩ S) := DF_run (lib := lib) (f := 14) (k := k_dioptrelaw14_Great) rfl (Nat.le_of_ble_eq_true rfl) S
theorem run_entry_Encode {nk : NK} (a0 : AV) (S : St) : DF lib nk 15 [a0] S = doneK 15 [(.tmp 2), (.tmp 3)] S (DC lib nk c_entry_Encode ⟨[(0, a0)], [], S.length⟩ S) := DF_run (lib := lib) (f := 15) (k := k_entry_Encode) rfl (Nat.le_of_ble_eq_true rfl) S
theorem run_slices_Equal_api_Hash {nk : NK} (a0 a1 : AV) (S : St) : DF lib nk 16 [a0, a1] S = doneK 16 [(.tmp 4)] S (DC lib nk c_slices_Equal_api_Hash ⟨[(0, a0), (1, a1)], [], S.length⟩ S) := DF_run (lib := lib) (f := 16) (k := k_slices_Equal_api_Hash) rfl (Nat.le_of_ble_eq_true rfl) S
theorem run_op_Same {nk : NK} (a0 a1 : AV) (S : St) : DF lib nk 17 [a0, a1] S = doneK 17 [(.tmp 4)] S (DC lib nk c_op_Same ⟨[(0, a0), (1, a1)], [], S.length⟩ S) := DF_run (lib := lib) (f := 17) (k := k_op_Same) rfl (Nat.le_of_ble_eq_true rfl) S
theorem run_lens_Same {nk : NK} (a0 a1 : AV) (S : St) : DF lib nk 18 [a0, a1] S = doneK 18 [(.tmp 4)] S (DC lib nk c_lens_Same ⟨[(0, a0), (1, a1)], [], S.length⟩ S) := DF_run (lib := lib) (f := 18) (k := k_lens_Same) rfl (Nat.le_of_ble_eq_true rfl) S
theorem run_dioptreref12_Same {nk : NK} (a0 a1 : AV) (S : St) : DF lib nk 19 [a0, a1] S = doneK 19 [(.tmp 4)] S (DC lib nk c_dioptreref12_Same ⟨[(0, a0), (1, a1)], [], S.length⟩ S) := DF_run (lib := lib) (f := 19) (k := k_dioptreref12_Same) rfl (Nat.le_of_ble_eq_true rfl) S
theorem run_dioptreref14_Same {nk : NK} (a0 a1 : AV) (S : St) : DF lib nk 20 [a0, a1] S = doneK 20 [(.tmp 4)] S (DC lib nk c_dioptreref14_Same ⟨[(0, a0), (1, a1)], [], S.length⟩ S) := DF_run (lib := lib) (f := 20) (k := k_dioptreref14_Same) rfl (Nat.le_of_ble_eq_true rfl) S
theorem run_slices_SortFunc_api_Hash {nk : NK} (a0 a1 : AV) (S : St) : DF lib nk 21 [a0, a1] S = doneK 21 [] S (DC lib nk c_slices_SortFunc_api_Hash ⟨[(0, a0), (1, a1)], [], S.length⟩ S) := DF_run (lib := lib) (f := 21) (k := k_slices_SortFunc_api_Hash) rfl (Nat.le_of_ble_eq_true rfl) S
theorem run_entry_Sort_1 {nk : NK} (a0 a1 : AV) (S : St) : DF lib nk 22 [a0, a1] S = doneK 22 [(.tmp 4)] S (DC lib nk c_entry_Sort_1 ⟨[(0, a0), (1, a1)], [], S.length⟩ S) := DF_run (lib := lib) (f := 22) (k := k_entry_Sort_1) rfl (Nat.le_of_ble_eq_true rfl) S
theorem run_slices_Compare_byte {nk : NK} (a0 a1 : AV) (S : St) : DF lib nk 23 [a0, a1] S = doneK 23 [(.tmp 4)] S (DC lib nk c_slices_Compare_byte ⟨[(0, a0), (1, a1)], [], S.length⟩ S) := DF_run (lib := lib) (f := 23) (k := k_slices_Compare_byte) rfl (Nat.le_of_ble_eq_true rfl) S
theorem run_slices_Compact_api_Hash {nk : NK} (a0 : AV) (S : St) : DF lib nk 24 [a0] S = doneK 24 [(.tmp 2)] S (DC lib nk c_slices_Compact_api_Hash ⟨[(0, a0)], [], S.length⟩ S) := DF_run (lib := lib) (f := 24) (k := k_slices_Compact_api_Hash) rfl (Nat.le_of_ble_eq_true rfl) S
theorem run_dioptrelaw10_Great {nk : NK} (a0 : AV) (S : St) : DF lib nk 25 [a0] S = doneK 25 [(.tmp 2)] S (DC lib nk c_dioptrelaw10_Great ⟨[(0, a0)], [], S.length⟩ S) := DF_run (lib := lib) (f := 25) (k := k_dioptrelaw10_Great) rfl (Nat.le_of_ble_eq_true rfl) S
theorem run_dioptrelaw08_Great {nk : NK} (a0 : AV) (S : St) : DF lib nk 26 [a0] S = doneK 26 [(.tmp 2)] S (DC lib nk c_dioptrelaw08_Great ⟨[(0, a0)], [], S.length⟩ S) := DF_run (lib := lib) (f := 26) (k := k_dioptrelaw08_Great) rfl (Nat.le_of_ble_eq_true rfl) S
theorem run_dioptrelaw14_room {nk : NK} (a0 a1 : AV) (S : St) : DF lib nk 27 [a0, a1] S = doneK 27 [(.tmp 4)] S (DC lib nk c_dioptrelaw14_room ⟨[(0, a0), (1, a1)], [], S.length⟩ S) := DF_run (lib := lib) (f := 27) (k := k_dioptrelaw14_room) rfl (Nat.le_of_ble_eq_true rfl) S
theorem run_entry_sound {nk : NK} (a0 : AV) (S : St) : DF lib nk 28 [a0] S = doneK 28 [(.tmp 2)] S (DC lib nk c_entry_sound ⟨[(0, a0)], [], S.length⟩ S) := DF_run (lib := lib) (f := 28) (k := k_entry_sound) rfl (Nat.le_of_ble_eq_true rfl) S
theorem run_entry_body {nk : NK} (a0 : AV) (S : St) : DF lib nk 29 [a0] S = doneK 29 [(.tmp 2), (.tmp 3)] S (DC lib nk c_entry_body ⟨[(0, a0)], [], S.length⟩ S) := DF_run (lib := lib) (f := 29) (k := k_entry_body) rfl (Nat.le_of_ble_eq_true rfl) S
theorem run_slices_Equal_api_Step {nk : NK} (a0 a1 : AV) (S : St) : DF lib nk 30 [a0, a1] S = doneK 30 [(.tmp 4)] S (DC lib nk c_slices_Equal_api_Step ⟨[(0, a0), (1, a1)], [], S.length⟩ S) := DF_run (lib := lib) (f := 30) (k := k_slices_Equal_api_Step) rfl (Nat.le_of_ble_eq_true rfl) S
theorem run_value_Same {nk : NK} (a0 a1 : AV) (S : St) : DF lib nk 31 [a0, a1] S = doneK 31 [(.tmp 4)] S (DC lib nk c_value_Same ⟨[(0, a0), (1, a1)], [], S.length⟩ S) := DF_run (lib := lib) (f := 31) (k := k_value_Same) rfl (Nat.le_of_ble_eq_true rfl) S
theorem run_schema_Same {nk : NK} (a0 a1 : AV) (S : St) : DF lib nk 32 [a0, a1] S = doneK 32 [(.tmp 4)] S (DC lib nk c_schema_Same ⟨[(0, a0), (1, a1)], [], S.length⟩ S) := DF_run (lib := lib) (f := 32) (k := k_schema_Same) rfl (Nat.le_of_ble_eq_true rfl) S
theorem run_slices_EqualFunc_api_Pair {nk : NK} (a0 a1 a2 : AV) (S : St) : DF lib nk 33 [a0, a1, a2] S = doneK 33 [(.tmp 6)] S (DC lib nk c_slices_EqualFunc_api_Pair ⟨[(0, a0), (1, a1), (2, a2)], [], S.length⟩ S) := DF_run (lib := lib) (f := 33) (k := k_slices_EqualFunc_api_Pair) rfl (Nat.le_of_ble_eq_true rfl) S
theorem run_lens_Same_1 {nk : NK} (a0 a1 : AV) (S : St) : DF lib nk 34 [a0, a1] S = doneK 34 [(.tmp 4)] S (DC lib nk c_lens_Same_1 ⟨[(0, a0), (1, a1)], [], S.length⟩ S) := DF_run (lib := lib) (f := 34) (k := k_lens_Same_1) rfl (Nat.le_of_ble_eq_true rfl) S
theorem run_slices_EqualFunc_api_Lens {nk : NK} (a0 a1 a2 : AV) (S : St) : DF lib nk 35 [a0, a1, a2] S = doneK 35 [(.tmp 6)] S (DC lib nk c_slices_EqualFunc_api_Lens ⟨[(0, a0), (1, a1), (2, a2)], [], S.length⟩ S) := DF_run (lib := lib) (f := 35) (k := k_slices_EqualFunc_api_Lens) rfl (Nat.le_of_ble_eq_true rfl) S
theorem run_dioptreref10_Same {nk : NK} (a0 a1 : AV) (S : St) : DF lib nk 36 [a0, a1] S = doneK 36 [(.tmp 4)] S (DC lib nk c_dioptreref10_Same ⟨[(0, a0), (1, a1)], [], S.length⟩ S) := DF_run (lib := lib) (f := 36) (k := k_dioptreref10_Same) rfl (Nat.le_of_ble_eq_true rfl) S
theorem run_dioptreref08_Same {nk : NK} (a0 a1 : AV) (S : St) : DF lib nk 37 [a0, a1] S = doneK 37 [(.tmp 4)] S (DC lib nk c_dioptreref08_Same ⟨[(0, a0), (1, a1)], [], S.length⟩ S) := DF_run (lib := lib) (f := 37) (k := k_dioptreref08_Same) rfl (Nat.le_of_ble_eq_true rfl) S
theorem run_dioptreref09_Same {nk : NK} (a0 a1 : AV) (S : St) : DF lib nk 38 [a0, a1] S = doneK 38 [(.tmp 4)] S (DC lib nk c_dioptreref09_Same ⟨[(0, a0), (1, a1)], [], S.length⟩ S) := DF_run (lib := lib) (f := 38) (k := k_dioptreref09_Same) rfl (Nat.le_of_ble_eq_true rfl) S
theorem run_slices_pdqsortCmpFunc_api_Hash {nk : NK} (a0 a1 a2 a3 a4 : AV) (S : St) : DF lib nk 39 [a0, a1, a2, a3, a4] S = doneK 39 [] S (DC lib nk c_slices_pdqsortCmpFunc_api_Hash ⟨[(0, a0), (1, a1), (2, a2), (3, a3), (4, a4)], [], S.length⟩ S) := DF_run (lib := lib) (f := 39) (k := k_slices_pdqsortCmpFunc_api_Hash) rfl (Nat.le_of_ble_eq_true rfl) S
theorem run_math_bits_Len {nk : NK} (a0 : AV) (S : St) : DF lib nk 40 [a0] S = doneK 40 [(.tmp 2)] S (DC lib nk c_math_bits_Len ⟨[(0, a0)], [], S.length⟩ S) := DF_run (lib := lib) (f := 40) (k := k_math_bits_Len) rfl (Nat.le_of_ble_eq_true rfl) S
theorem run_cmp_Compare_byte {nk : NK} (a0 a1 : AV) (S : St) : DF lib nk 41 [a0, a1] S = doneK 41 [(.tmp 4)] S (DC lib nk c_cmp_Compare_byte ⟨[(0, a0), (1, a1)], [], S.length⟩ S) := DF_run (lib := lib) (f := 41) (k := k_cmp_Compare_byte) rfl (Nat.le_of_ble_eq_true rfl) S
theorem run_dioptrelaw08_room {nk : NK} (a0 a1 a2 : AV) (S : St) : DF lib nk 42 [a0, a1, a2] S = doneK 42 [(.tmp 6)] S (DC lib nk c_dioptrelaw08_room ⟨[(0, a0), (1, a1), (2, a2)], [], S.length⟩ S) := DF_run (lib := lib) (f := 42) (k := k_dioptrelaw08_room) rfl (Nat.le_of_ble_eq_true rfl) S
theorem run_dioptrelaw09_Great {nk : NK} (a0 : AV) (S : St) : DF lib nk 43 [a0] S = doneK 43 [(.tmp 2)] S (DC lib nk c_dioptrelaw09_Great ⟨[(0, a0)], [], S.length⟩ S) := DF_run (lib := lib) (f := 43) (k := k_dioptrelaw09_Great) rfl (Nat.le_of_ble_eq_true rfl) S
theorem run_entry_rising {nk : NK} (a0 : AV) (S : St) : DF lib nk 44 [a0] S = doneK 44 [(.tmp 2)] S (DC lib nk c_entry_rising ⟨[(0, a0)], [], S.length⟩ S) := DF_run (lib := lib) (f := 44) (k := k_entry_rising) rfl (Nat.le_of_ble_eq_true rfl) S
theorem run_op_Right {nk : NK} (a0 : AV) (S : St) : DF lib nk 45 [a0] S = doneK 45 [(.tmp 2)] S (DC lib nk c_op_Right ⟨[(0, a0)], [], S.length⟩ S) := DF_run (lib := lib) (f := 45) (k := k_op_Right) rfl (Nat.le_of_ble_eq_true rfl) S
theorem run_lens_Right {nk : NK} (a0 : AV) (S : St) : DF lib nk 46 [a0] S = doneK 46 [(.tmp 2)] S (DC lib nk c_lens_Right ⟨[(0, a0)], [], S.length⟩ S) := DF_run (lib := lib) (f := 46) (k := k_lens_Right) rfl (Nat.le_of_ble_eq_true rfl) S
theorem run_pack_Writer_Byte {nk : NK} (a0 a1 : AV) (S : St) : DF lib nk 47 [a0, a1] S = doneK 47 [] S (DC lib nk c_pack_Writer_Byte ⟨[(0, a0), (1, a1)], [], S.length⟩ S) := DF_run (lib := lib) (f := 47) (k := k_pack_Writer_Byte) rfl (Nat.le_of_ble_eq_true rfl) S
theorem run_pack_Writer_Raw {nk : NK} (a0 a1 : AV) (S : St) : DF lib nk 48 [a0, a1] S = doneK 48 [] S (DC lib nk c_pack_Writer_Raw ⟨[(0, a0), (1, a1)], [], S.length⟩ S) := DF_run (lib := lib) (f := 48) (k := k_pack_Writer_Raw) rfl (Nat.le_of_ble_eq_true rfl) S
theorem run_pack_Writer_Number {nk : NK} (a0 a1 : AV) (S : St) : DF lib nk 49 [a0, a1] S = doneK 49 [] S (DC lib nk c_pack_Writer_Number ⟨[(0, a0), (1, a1)], [], S.length⟩ S) := DF_run (lib := lib) (f := 49) (k := k_pack_Writer_Number) rfl (Nat.le_of_ble_eq_true rfl) S
theorem run_op_Encode {nk : NK} (a0 : AV) (S : St) : DF lib nk 50 [a0] S = doneK 50 [(.tmp 2), (.tmp 3)] S (DC lib nk c_op_Encode ⟨[(0, a0)], [], S.length⟩ S) := DF_run (lib := lib) (f := 50) (k := k_op_Encode) rfl (Nat.le_of_ble_eq_true rfl) S
theorem run_lens_Encode {nk : NK} (a0 : AV) (S : St) : DF lib nk 51 [a0] S = doneK 51 [(.tmp 2), (.tmp 3)] S (DC lib nk c_lens_Encode ⟨[(0, a0)], [], S.length⟩ S) := DF_run (lib := lib) (f := 51) (k := k_lens_Encode) rfl (Nat.le_of_ble_eq_true rfl) S
theorem run_pack_Writer_Out {nk : NK} (a0 : AV) (S : St) : DF lib nk 52 [a0] S = doneK 52 [(.tmp 2)] S (DC lib nk c_pack_Writer_Out ⟨[(0, a0)], [], S.length⟩ S) := DF_run (lib := lib) (f := 52) (k := k_pack_Writer_Out) rfl (Nat.le_of_ble_eq_true rfl) S
theorem run_slices_Equal_string {nk : NK} (a0 a1 : AV) (S : St) : DF lib nk 53 [a0, a1] S = doneK 53 [(.tmp 4)] S (DC lib nk c_slices_Equal_string ⟨[(0, a0), (1, a1)], [], S.length⟩ S) := DF_run (lib := lib) (f := 53) (k := k_slices_Equal_string) rfl (Nat.le_of_ble_eq_true rfl) S
theorem run_slices_Equal_uint64 {nk : NK} (a0 a1 : AV) (S : St) : DF lib nk 54 [a0, a1] S = doneK 54 [(.tmp 4)] S (DC lib nk c_slices_Equal_uint64 ⟨[(0, a0), (1, a1)], [], S.length⟩ S) := DF_run (lib := lib) (f := 54) (k := k_slices_Equal_uint64) rfl (Nat.le_of_ble_eq_true rfl) S
theorem run_slices_EqualFunc_api_Value {nk : NK} (a0 a1 a2 : AV) (S : St) : DF lib nk 55 [a0, a1, a2] S = doneK 55 [(.tmp 6)] S (DC lib nk c_slices_EqualFunc_api_Value ⟨[(0, a0), (1, a1), (2, a2)], [], S.length⟩ S) := DF_run (lib := lib) (f := 55) (k := k_slices_EqualFunc_api_Value) rfl (Nat.le_of_ble_eq_true rfl) S
theorem run_slices_EqualFunc_api_Schema {nk : NK} (a0 a1 a2 : AV) (S : St) : DF lib nk 56 [a0, a1, a2] S = doneK 56 [(.tmp 6)] S (DC lib nk c_slices_EqualFunc_api_Schema ⟨[(0, a0), (1, a1), (2, a2)], [], S.length⟩ S) := DF_run (lib := lib) (f := 56) (k := k_slices_EqualFunc_api_Schema) rfl (Nat.le_of_ble_eq_true rfl) S
theorem run_slices_insertionSortCmpFunc_api_Hash {nk : NK} (a0 a1 a2 a3 : AV) (S : St) : DF lib nk 57 [a0, a1, a2, a3] S = doneK 57 [] S (DC lib nk c_slices_insertionSortCmpFunc_api_Hash ⟨[(0, a0), (1, a1), (2, a2), (3, a3)], [], S.length⟩ S) := DF_run (lib := lib) (f := 57) (k := k_slices_insertionSortCmpFunc_api_Hash) rfl (Nat.le_of_ble_eq_true rfl) S
theorem run_math_bits_Len64 {nk : NK} (a0 : AV) (S : St) : DF lib nk 66 [a0] S = doneK 66 [(.tmp 2)] S (DC lib nk c_math_bits_Len64 ⟨[(0, a0)], [], S.length⟩ S) := DF_run (lib := lib) (f := 66) (k := k_math_bits_Len64) rfl (Nat.le_of_ble_eq_true rfl) S
theorem run_cmp_isNaN_byte {nk : NK} (a0 : AV) (S : St) : DF lib nk 67 [a0] S = doneK 67 [(.tmp 2)] S (DC lib nk c_cmp_isNaN_byte ⟨[(0, a0)], [], S.length⟩ S) := DF_run (lib := lib) (f := 67) (k := k_cmp_isNaN_byte) rfl (Nat.le_of_ble_eq_true rfl) S
theorem run_dioptrelaw09_room {nk : NK} (a0 a1 a2 : AV) (S : St) : DF lib nk 68 [a0, a1, a2] S = doneK 68 [(.tmp 6)] S (DC lib nk c_dioptrelaw09_room ⟨[(0, a0), (1, a1), (2, a2)], [], S.length⟩ S) := DF_run (lib := lib) (f := 68) (k := k_dioptrelaw09_room) rfl (Nat.le_of_ble_eq_true rfl) S
theorem run_path_Right {nk : NK} (a0 : AV) (S : St) : DF lib nk 69 [a0] S = doneK 69 [(.tmp 2)] S (DC lib nk c_path_Right ⟨[(0, a0)], [], S.length⟩ S) := DF_run (lib := lib) (f := 69) (k := k_path_Right) rfl (Nat.le_of_ble_eq_true rfl) S
theorem run_value_Right {nk : NK} (a0 : AV) (S : St) : DF lib nk 70 [a0] S = doneK 70 [(.tmp 2)] S (DC lib nk c_value_Right ⟨[(0, a0)], [], S.length⟩ S) := DF_run (lib := lib) (f := 70) (k := k_value_Right) rfl (Nat.le_of_ble_eq_true rfl) S
theorem run_lens_right {nk : NK} (a0 a1 : AV) (S : St) : DF lib nk 71 [a0, a1] S = doneK 71 [(.tmp 4)] S (DC lib nk c_lens_right ⟨[(0, a0), (1, a1)], [], S.length⟩ S) := DF_run (lib := lib) (f := 71) (k := k_lens_right) rfl (Nat.le_of_ble_eq_true rfl) S
theorem run_value_Encode {nk : NK} (a0 : AV) (S : St) : DF lib nk 72 [a0] S = doneK 72 [(.tmp 2), (.tmp 3)] S (DC lib nk c_value_Encode ⟨[(0, a0)], [], S.length⟩ S) := DF_run (lib := lib) (f := 72) (k := k_value_Encode) rfl (Nat.le_of_ble_eq_true rfl) S
theorem run_op_write {nk : NK} (a0 a1 : AV) (S : St) : DF lib nk 73 [a0, a1] S = doneK 73 [] S (DC lib nk c_op_write ⟨[(0, a0), (1, a1)], [], S.length⟩ S) := DF_run (lib := lib) (f := 73) (k := k_op_write) rfl (Nat.le_of_ble_eq_true rfl) S
theorem run_lens_uses {nk : NK} (a0 : AV) (S : St) : DF lib nk 74 [a0] S = doneK 74 [(.cell 2 (.agg 4)), (.tmp 3)] S (DC lib nk c_lens_uses ⟨[(0, a0)], [], S.length⟩ S) := DF_run (lib := lib) (f := 74) (k := k_lens_uses) rfl (Nat.le_of_ble_eq_true rfl) S
theorem run_lens_long {nk : NK} (a0 : AV) (S : St) : DF lib nk 75 [a0] S = doneK 75 [(.tmp 2)] S (DC lib nk c_lens_long ⟨[(0, a0)], [], S.length⟩ S) := DF_run (lib := lib) (f := 75) (k := k_lens_long) rfl (Nat.le_of_ble_eq_true rfl) S
theorem run_lens_write {nk : NK} (a0 a1 : AV) (S : St) : DF lib nk 76 [a0, a1] S = doneK 76 [] S (DC lib nk c_lens_write ⟨[(0, a0), (1, a1)], [], S.length⟩ S) := DF_run (lib := lib) (f := 76) (k := k_lens_write) rfl (Nat.le_of_ble_eq_true rfl) S
theorem run_slices_ContainsFunc_api_Step {nk : NK} (a0 a1 : AV) (S : St) : DF lib nk 82 [a0, a1] S = doneK 82 [(.tmp 4)] S (DC lib nk c_slices_ContainsFunc_api_Step ⟨[(0, a0), (1, a1)], [], S.length⟩ S) := DF_run (lib := lib) (f := 82) (k := k_slices_ContainsFunc_api_Step) rfl (Nat.le_of_ble_eq_true rfl) S
theorem run_path_Right_1 {nk : NK} (a0 : AV) (S : St) : DF lib nk 83 [a0] S = doneK 83 [(.tmp 2)] S (DC lib nk c_path_Right_1 ⟨[(0, a0)], [], S.length⟩ S) := DF_run (lib := lib) (f := 83) (k := k_path_Right_1) rfl (Nat.le_of_ble_eq_true rfl) S
theorem run_path_fine {nk : NK} (a0 : AV) (S : St) : DF lib nk 84 [a0] S = doneK 84 [(.tmp 2)] S (DC lib nk c_path_fine ⟨[(0, a0)], [], S.length⟩ S) := DF_run (lib := lib) (f := 84) (k := k_path_fine) rfl (Nat.le_of_ble_eq_true rfl) S
theorem run_value_right {nk : NK} (a0 a1 : AV) (S : St) : DF lib nk 85 [a0, a1] S = doneK 85 [(.tmp 4)] S (DC lib nk c_value_right ⟨[(0, a0), (1, a1)], [], S.length⟩ S) := DF_run (lib := lib) (f := 85) (k := k_value_right) rfl (Nat.le_of_ble_eq_true rfl) S
theorem run_value_Name {nk : NK} (a0 : AV) (S : St) : DF lib nk 86 [a0] S = doneK 86 [(.tmp 2)] S (DC lib nk c_value_Name ⟨[(0, a0)], [], S.length⟩ S) := DF_run (lib := lib) (f := 86) (k := k_value_Name) rfl (Nat.le_of_ble_eq_true rfl) S
theorem run_lens_zero {nk : NK} (a0 a1 : AV) (S : St) : DF lib nk 87 [a0, a1] S = doneK 87 [(.tmp 4)] S (DC lib nk c_lens_zero ⟨[(0, a0), (1, a1)], [], S.length⟩ S) := DF_run (lib := lib) (f := 87) (k := k_lens_zero) rfl (Nat.le_of_ble_eq_true rfl) S
theorem run_lens_typed {nk : NK} (a0 : AV) (S : St) : DF lib nk 88 [a0] S = doneK 88 [(.tmp 2)] S (DC lib nk c_lens_typed ⟨[(0, a0)], [], S.length⟩ S) := DF_run (lib := lib) (f := 88) (k := k_lens_typed) rfl (Nat.le_of_ble_eq_true rfl) S
theorem run_lens_paired {nk : NK} (a0 : AV) (S : St) : DF lib nk 89 [a0] S = doneK 89 [(.tmp 2)] S (DC lib nk c_lens_paired ⟨[(0, a0)], [], S.length⟩ S) := DF_run (lib := lib) (f := 89) (k := k_lens_paired) rfl (Nat.le_of_ble_eq_true rfl) S
theorem run_value_write {nk : NK} (a0 a1 : AV) (S : St) : DF lib nk 90 [a0, a1] S = doneK 90 [] S (DC lib nk c_value_write ⟨[(0, a0), (1, a1)], [], S.length⟩ S) := DF_run (lib := lib) (f := 90) (k := k_value_write) rfl (Nat.le_of_ble_eq_true rfl) S
theorem run_path_Write {nk : NK} (a0 a1 : AV) (S : St) : DF lib nk 91 [a0, a1] S = doneK 91 [] S (DC lib nk c_path_Write ⟨[(0, a0), (1, a1)], [], S.length⟩ S) := DF_run (lib := lib) (f := 91) (k := k_path_Write) rfl (Nat.le_of_ble_eq_true rfl) S
theorem run_schema_Encode {nk : NK} (a0 : AV) (S : St) : DF lib nk 92 [a0] S = doneK 92 [(.tmp 2), (.tmp 3)] S (DC lib nk c_schema_Encode ⟨[(0, a0)], [], S.length⟩ S) := DF_run (lib := lib) (f := 92) (k := k_schema_Encode) rfl (Nat.le_of_ble_eq_true rfl) S
theorem run_pack_Writer_Text {nk : NK} (a0 a1 : AV) (S : St) : DF lib nk 93 [a0, a1] S = doneK 93 [] S (DC lib nk c_pack_Writer_Text ⟨[(0, a0), (1, a1)], [], S.length⟩ S) := DF_run (lib := lib) (f := 93) (k := k_pack_Writer_Text) rfl (Nat.le_of_ble_eq_true rfl) S
theorem run_lens_values {nk : NK} (a0 a1 : AV) (S : St) : DF lib nk 94 [a0, a1] S = doneK 94 [] S (DC lib nk c_lens_values ⟨[(0, a0), (1, a1)], [], S.length⟩ S) := DF_run (lib := lib) (f := 94) (k := k_lens_values) rfl (Nat.le_of_ble_eq_true rfl) S
theorem run_slices_IndexFunc_api_Step {nk : NK} (a0 a1 : AV) (S : St) : DF lib nk 96 [a0, a1] S = doneK 96 [(.tmp 4)] S (DC lib nk c_slices_IndexFunc_api_Step ⟨[(0, a0), (1, a1)], [], S.length⟩ S) := DF_run (lib := lib) (f := 96) (k := k_slices_IndexFunc_api_Step) rfl (Nat.le_of_ble_eq_true rfl) S
theorem run_value_plain {nk : NK} (a0 : AV) (S : St) : DF lib nk 97 [a0] S = doneK 97 [(.tmp 2)] S (DC lib nk c_value_plain ⟨[(0, a0)], [], S.length⟩ S) := DF_run (lib := lib) (f := 97) (k := k_value_plain) rfl (Nat.le_of_ble_eq_true rfl) S
theorem run_slices_ContainsFunc_api_Value {nk : NK} (a0 a1 : AV) (S : St) : DF lib nk 98 [a0, a1] S = doneK 98 [(.tmp 4)] S (DC lib nk c_slices_ContainsFunc_api_Value ⟨[(0, a0), (1, a1)], [], S.length⟩ S) := DF_run (lib := lib) (f := 98) (k := k_slices_ContainsFunc_api_Value) rfl (Nat.le_of_ble_eq_true rfl) S
theorem run_value_right_1 {nk : NK} (a0 : AV) (S : St) : DF lib nk 99 [a0] S = doneK 99 [(.tmp 3)] S (DC lib nk c_value_right_1 ⟨[(0, a0)], [], S.length⟩ S) := DF_run (lib := lib) (f := 99) (k := k_value_right_1) rfl (Nat.le_of_ble_eq_true rfl) S
theorem run_strings_IndexFunc {nk : NK} (a0 a1 : AV) (S : St) : DF lib nk 100 [a0, a1] S = doneK 100 [(.tmp 4)] S (DC lib nk c_strings_IndexFunc ⟨[(0, a0), (1, a1)], [], S.length⟩ S) := DF_run (lib := lib) (f := 100) (k := k_strings_IndexFunc) rfl (Nat.le_of_ble_eq_true rfl) S
theorem run_value_Name_1 {nk : NK} (a0 : AV) (S : St) : DF lib nk 101 [a0] S = doneK 101 [(.tmp 2)] S (DC lib nk c_value_Name_1 ⟨[(0, a0)], [], S.length⟩ S) := DF_run (lib := lib) (f := 101) (k := k_value_Name_1) rfl (Nat.le_of_ble_eq_true rfl) S
theorem run_schema_Fits {nk : NK} (a0 a1 : AV) (S : St) : DF lib nk 102 [a0, a1] S = doneK 102 [(.tmp 4)] S (DC lib nk c_schema_Fits ⟨[(0, a0), (1, a1)], [], S.length⟩ S) := DF_run (lib := lib) (f := 102) (k := k_schema_Fits) rfl (Nat.le_of_ble_eq_true rfl) S
theorem run_schema_Scalar {nk : NK} (a0 : AV) (S : St) : DF lib nk 103 [a0] S = doneK 103 [(.tmp 2)] S (DC lib nk c_schema_Scalar ⟨[(0, a0)], [], S.length⟩ S) := DF_run (lib := lib) (f := 103) (k := k_schema_Scalar) rfl (Nat.le_of_ble_eq_true rfl) S
theorem run_lens_scalar {nk : NK} (a0 : AV) (S : St) : DF lib nk 104 [a0] S = doneK 104 [(.tmp 2)] S (DC lib nk c_lens_scalar ⟨[(0, a0)], [], S.length⟩ S) := DF_run (lib := lib) (f := 104) (k := k_lens_scalar) rfl (Nat.le_of_ble_eq_true rfl) S
theorem run_slices_ContainsFunc_api_Pair {nk : NK} (a0 a1 : AV) (S : St) : DF lib nk 105 [a0, a1] S = doneK 105 [(.tmp 4)] S (DC lib nk c_slices_ContainsFunc_api_Pair ⟨[(0, a0), (1, a1)], [], S.length⟩ S) := DF_run (lib := lib) (f := 105) (k := k_slices_ContainsFunc_api_Pair) rfl (Nat.le_of_ble_eq_true rfl) S
theorem run_lens_paired_1 {nk : NK} (a0 : AV) (S : St) : DF lib nk 106 [a0] S = doneK 106 [(.tmp 3)] S (DC lib nk c_lens_paired_1 ⟨[(0, a0)], [], S.length⟩ S) := DF_run (lib := lib) (f := 106) (k := k_lens_paired_1) rfl (Nat.le_of_ble_eq_true rfl) S
theorem run_pack_Writer_Bool {nk : NK} (a0 a1 : AV) (S : St) : DF lib nk 107 [a0, a1] S = doneK 107 [] S (DC lib nk c_pack_Writer_Bool ⟨[(0, a0), (1, a1)], [], S.length⟩ S) := DF_run (lib := lib) (f := 107) (k := k_pack_Writer_Bool) rfl (Nat.le_of_ble_eq_true rfl) S
theorem run_pack_Writer_Int {nk : NK} (a0 a1 : AV) (S : St) : DF lib nk 108 [a0, a1] S = doneK 108 [] S (DC lib nk c_pack_Writer_Int ⟨[(0, a0), (1, a1)], [], S.length⟩ S) := DF_run (lib := lib) (f := 108) (k := k_pack_Writer_Int) rfl (Nat.le_of_ble_eq_true rfl) S
theorem run_schema_Right {nk : NK} (a0 : AV) (S : St) : DF lib nk 109 [a0] S = doneK 109 [(.tmp 2)] S (DC lib nk c_schema_Right ⟨[(0, a0)], [], S.length⟩ S) := DF_run (lib := lib) (f := 109) (k := k_schema_Right) rfl (Nat.le_of_ble_eq_true rfl) S
theorem run_schema_write {nk : NK} (a0 a1 : AV) (S : St) : DF lib nk 110 [a0, a1] S = doneK 110 [] S (DC lib nk c_schema_write ⟨[(0, a0), (1, a1)], [], S.length⟩ S) := DF_run (lib := lib) (f := 110) (k := k_schema_write) rfl (Nat.le_of_ble_eq_true rfl) S
theorem run_pack_Writer_Bytes {nk : NK} (a0 a1 : AV) (S : St) : DF lib nk 111 [a0, a1] S = doneK 111 [] S (DC lib nk c_pack_Writer_Bytes ⟨[(0, a0), (1, a1)], [], S.length⟩ S) := DF_run (lib := lib) (f := 111) (k := k_pack_Writer_Bytes) rfl (Nat.le_of_ble_eq_true rfl) S
theorem run_value_rising {nk : NK} (a0 : AV) (S : St) : DF lib nk 112 [a0] S = doneK 112 [(.tmp 2)] S (DC lib nk c_value_rising ⟨[(0, a0)], [], S.length⟩ S) := DF_run (lib := lib) (f := 112) (k := k_value_rising) rfl (Nat.le_of_ble_eq_true rfl) S
theorem run_value_unlike {nk : NK} (a0 : AV) (S : St) : DF lib nk 113 [a0] S = doneK 113 [(.tmp 2)] S (DC lib nk c_value_unlike ⟨[(0, a0)], [], S.length⟩ S) := DF_run (lib := lib) (f := 113) (k := k_value_unlike) rfl (Nat.le_of_ble_eq_true rfl) S
theorem run_slices_IndexFunc_api_Value {nk : NK} (a0 a1 : AV) (S : St) : DF lib nk 114 [a0, a1] S = doneK 114 [(.tmp 4)] S (DC lib nk c_slices_IndexFunc_api_Value ⟨[(0, a0), (1, a1)], [], S.length⟩ S) := DF_run (lib := lib) (f := 114) (k := k_slices_IndexFunc_api_Value) rfl (Nat.le_of_ble_eq_true rfl) S
theorem run_strings_indexFunc {nk : NK} (a0 a1 a2 : AV) (S : St) : DF lib nk 115 [a0, a1, a2] S = doneK 115 [(.tmp 6)] S (DC lib nk c_strings_indexFunc ⟨[(0, a0), (1, a1), (2, a2)], [], S.length⟩ S) := DF_run (lib := lib) (f := 115) (k := k_strings_indexFunc) rfl (Nat.le_of_ble_eq_true rfl) S
theorem run_schema_fits {nk : NK} (a0 a1 : AV) (S : St) : DF lib nk 116 [a0, a1] S = doneK 116 [(.tmp 4)] S (DC lib nk c_schema_fits ⟨[(0, a0), (1, a1)], [], S.length⟩ S) := DF_run (lib := lib) (f := 116) (k := k_schema_fits) rfl (Nat.le_of_ble_eq_true rfl) S
theorem run_slices_IndexFunc_api_Pair {nk : NK} (a0 a1 : AV) (S : St) : DF lib nk 117 [a0, a1] S = doneK 117 [(.tmp 4)] S (DC lib nk c_slices_IndexFunc_api_Pair ⟨[(0, a0), (1, a1)], [], S.length⟩ S) := DF_run (lib := lib) (f := 117) (k := k_slices_IndexFunc_api_Pair) rfl (Nat.le_of_ble_eq_true rfl) S
theorem run_schema_right {nk : NK} (a0 a1 : AV) (S : St) : DF lib nk 118 [a0, a1] S = doneK 118 [(.tmp 4)] S (DC lib nk c_schema_right ⟨[(0, a0), (1, a1)], [], S.length⟩ S) := DF_run (lib := lib) (f := 118) (k := k_schema_right) rfl (Nat.le_of_ble_eq_true rfl) S
theorem run_slices_Contains_uint64 {nk : NK} (a0 a1 : AV) (S : St) : DF lib nk 119 [a0, a1] S = doneK 119 [(.tmp 4)] S (DC lib nk c_slices_Contains_uint64 ⟨[(0, a0), (1, a1)], [], S.length⟩ S) := DF_run (lib := lib) (f := 119) (k := k_slices_Contains_uint64) rfl (Nat.le_of_ble_eq_true rfl) S
theorem run_slices_Contains_string {nk : NK} (a0 a1 : AV) (S : St) : DF lib nk 120 [a0, a1] S = doneK 120 [(.tmp 4)] S (DC lib nk c_slices_Contains_string ⟨[(0, a0), (1, a1)], [], S.length⟩ S) := DF_run (lib := lib) (f := 120) (k := k_slices_Contains_string) rfl (Nat.le_of_ble_eq_true rfl) S
theorem run_schema_plain {nk : NK} (a0 : AV) (S : St) : DF lib nk 121 [a0] S = doneK 121 [(.tmp 2)] S (DC lib nk c_schema_plain ⟨[(0, a0)], [], S.length⟩ S) := DF_run (lib := lib) (f := 121) (k := k_schema_plain) rfl (Nat.le_of_ble_eq_true rfl) S
theorem run_slices_ContainsFunc_api_Schema {nk : NK} (a0 a1 : AV) (S : St) : DF lib nk 122 [a0, a1] S = doneK 122 [(.tmp 4)] S (DC lib nk c_slices_ContainsFunc_api_Schema ⟨[(0, a0), (1, a1)], [], S.length⟩ S) := DF_run (lib := lib) (f := 122) (k := k_slices_ContainsFunc_api_Schema) rfl (Nat.le_of_ble_eq_true rfl) S
theorem run_schema_right_1 {nk : NK} (a0 : AV) (S : St) : DF lib nk 123 [a0] S = doneK 123 [(.tmp 3)] S (DC lib nk c_schema_right_1 ⟨[(0, a0)], [], S.length⟩ S) := DF_run (lib := lib) (f := 123) (k := k_schema_right_1) rfl (Nat.le_of_ble_eq_true rfl) S
theorem run_slices_Index_uint64 {nk : NK} (a0 a1 : AV) (S : St) : DF lib nk 124 [a0, a1] S = doneK 124 [(.tmp 4)] S (DC lib nk c_slices_Index_uint64 ⟨[(0, a0), (1, a1)], [], S.length⟩ S) := DF_run (lib := lib) (f := 124) (k := k_slices_Index_uint64) rfl (Nat.le_of_ble_eq_true rfl) S
theorem run_slices_Index_string {nk : NK} (a0 a1 : AV) (S : St) : DF lib nk 125 [a0, a1] S = doneK 125 [(.tmp 4)] S (DC lib nk c_slices_Index_string ⟨[(0, a0), (1, a1)], [], S.length⟩ S) := DF_run (lib := lib) (f := 125) (k := k_slices_Index_string) rfl (Nat.le_of_ble_eq_true rfl) S
theorem run_schema_names {nk : NK} (a0 : AV) (S : St) : DF lib nk 126 [a0] S = doneK 126 [(.tmp 2)] S (DC lib nk c_schema_names ⟨[(0, a0)], [], S.length⟩ S) := DF_run (lib := lib) (f := 126) (k := k_schema_names) rfl (Nat.le_of_ble_eq_true rfl) S
theorem run_schema_unlike {nk : NK} (a0 : AV) (S : St) : DF lib nk 127 [a0] S = doneK 127 [(.tmp 2)] S (DC lib nk c_schema_unlike ⟨[(0, a0)], [], S.length⟩ S) := DF_run (lib := lib) (f := 127) (k := k_schema_unlike) rfl (Nat.le_of_ble_eq_true rfl) S
theorem run_schema_rising {nk : NK} (a0 : AV) (S : St) : DF lib nk 128 [a0] S = doneK 128 [(.tmp 2)] S (DC lib nk c_schema_rising ⟨[(0, a0)], [], S.length⟩ S) := DF_run (lib := lib) (f := 128) (k := k_schema_rising) rfl (Nat.le_of_ble_eq_true rfl) S
theorem run_slices_IndexFunc_api_Schema {nk : NK} (a0 a1 : AV) (S : St) : DF lib nk 129 [a0, a1] S = doneK 129 [(.tmp 4)] S (DC lib nk c_slices_IndexFunc_api_Schema ⟨[(0, a0), (1, a1)], [], S.length⟩ S) := DF_run (lib := lib) (f := 129) (k := k_slices_IndexFunc_api_Schema) rfl (Nat.le_of_ble_eq_true rfl) S
theorem run_slices_ContainsFunc_string {nk : NK} (a0 a1 : AV) (S : St) : DF lib nk 130 [a0, a1] S = doneK 130 [(.tmp 4)] S (DC lib nk c_slices_ContainsFunc_string ⟨[(0, a0), (1, a1)], [], S.length⟩ S) := DF_run (lib := lib) (f := 130) (k := k_slices_ContainsFunc_string) rfl (Nat.le_of_ble_eq_true rfl) S
theorem run_schema_names_1 {nk : NK} (a0 : AV) (S : St) : DF lib nk 131 [a0] S = doneK 131 [(.tmp 2)] S (DC lib nk c_schema_names_1 ⟨[(0, a0)], [], S.length⟩ S) := DF_run (lib := lib) (f := 131) (k := k_schema_names_1) rfl (Nat.le_of_ble_eq_true rfl) S
theorem run_slices_IsSorted_string {nk : NK} (a0 : AV) (S : St) : DF lib nk 132 [a0] S = doneK 132 [(.tmp 2)] S (DC lib nk c_slices_IsSorted_string ⟨[(0, a0)], [], S.length⟩ S) := DF_run (lib := lib) (f := 132) (k := k_slices_IsSorted_string) rfl (Nat.le_of_ble_eq_true rfl) S
theorem run_slices_IndexFunc_string {nk : NK} (a0 a1 : AV) (S : St) : DF lib nk 133 [a0, a1] S = doneK 133 [(.tmp 4)] S (DC lib nk c_slices_IndexFunc_string ⟨[(0, a0), (1, a1)], [], S.length⟩ S) := DF_run (lib := lib) (f := 133) (k := k_slices_IndexFunc_string) rfl (Nat.le_of_ble_eq_true rfl) S
theorem run_cmp_Less_string {nk : NK} (a0 a1 : AV) (S : St) : DF lib nk 134 [a0, a1] S = doneK 134 [(.tmp 4)] S (DC lib nk c_cmp_Less_string ⟨[(0, a0), (1, a1)], [], S.length⟩ S) := DF_run (lib := lib) (f := 134) (k := k_cmp_Less_string) rfl (Nat.le_of_ble_eq_true rfl) S
theorem run_cmp_isNaN_string {nk : NK} (a0 : AV) (S : St) : DF lib nk 135 [a0] S = doneK 135 [(.tmp 2)] S (DC lib nk c_cmp_isNaN_string ⟨[(0, a0)], [], S.length⟩ S) := DF_run (lib := lib) (f := 135) (k := k_cmp_isNaN_string) rfl (Nat.le_of_ble_eq_true rfl) S
@[simp] theorem rawF_dioptrelaw17_EntrySame : rawF 3 = false := rfl
@[simp] theorem boxF_dioptrelaw17_EntrySame : boxF 3 = false := rfl
@[simp] theorem rawF_dioptrelaw17_EntrySorts : rawF 4 = false := rfl
@[simp] theorem boxF_dioptrelaw17_EntrySorts : boxF 4 = false := rfl
@[simp] theorem rawF_dioptrelaw17_Great : rawF 5 = false := rfl
@[simp] theorem boxF_dioptrelaw17_Great : boxF 5 = false := rfl
@[simp] theorem rawF_dioptrelaw17_awake : rawF 6 = false := rfl
@[simp] theorem boxF_dioptrelaw17_awake : boxF 6 = false := rfl
@[simp] theorem rawF_entry_Same : rawF 7 = false := rfl
@[simp] theorem boxF_entry_Same : boxF 7 = false := rfl
@[simp] theorem rawF_dioptreref17_Same : rawF 8 = false := rfl
@[simp] theorem boxF_dioptreref17_Same : boxF 8 = false := rfl
@[simp] theorem rawF_entry_Sort : rawF 9 = false := rfl
@[simp] theorem boxF_entry_Sort : boxF 9 = false := rfl
@[simp] theorem rawF_entry_Seed : rawF 10 = false := rfl
@[simp] theorem boxF_entry_Seed : boxF 10 = false := rfl
@[simp] theorem rawF_entry_Less : rawF 11 = false := rfl
@[simp] theorem boxF_entry_Less : boxF 11 = false := rfl
@[simp] theorem rawF_dioptreref17_Less : rawF 12 = false := rfl
@[simp] theorem boxF_dioptreref17_Less : boxF 12 = false := rfl
@[simp] theorem rawF_dioptrelaw12_Great : rawF 13 = false := rfl
@[simp] theorem boxF_dioptrelaw12_Great : boxF 13 = false := rfl
@[simp] theorem rawF_dioptrelaw14_Great : rawF 14 = false := rfl
@[simp] theorem boxF_dioptrelaw14_Great : boxF 14 = false := rfl
@[simp] theorem rawF_entry_Encode : rawF 15 = false := rfl
@[simp] theorem boxF_entry_Encode : boxF 15 = false := rfl
@[simp] theorem rawF_slices_Equal_api_Hash : rawF 16 = false := rfl
@[simp] theorem boxF_slices_Equal_api_Hash : boxF 16 = false := rfl
@[simp] theorem rawF_op_Same : rawF 17 = false := rfl
@[simp] theorem boxF_op_Same : boxF 17 = false := rfl
@[simp] theorem rawF_lens_Same : rawF 18 = false := rfl
@[simp] theorem boxF_lens_Same : boxF 18 = false := rfl
@[simp] theorem rawF_dioptreref12_Same : rawF 19 = false := rfl
@[simp] theorem boxF_dioptreref12_Same : boxF 19 = false := rfl
@[simp] theorem rawF_dioptreref14_Same : rawF 20 = false := rfl
@[simp] theorem boxF_dioptreref14_Same : boxF 20 = false := rfl
@[simp] theorem rawF_slices_SortFunc_api_Hash : rawF 21 = true := rfl
@[simp] theorem boxF_slices_SortFunc_api_Hash : boxF 21 = false := rfl
@[simp] theorem rawF_entry_Sort_1 : rawF 22 = false := rfl
@[simp] theorem boxF_entry_Sort_1 : boxF 22 = false := rfl
@[simp] theorem rawF_slices_Compare_byte : rawF 23 = false := rfl
@[simp] theorem boxF_slices_Compare_byte : boxF 23 = false := rfl
@[simp] theorem rawF_slices_Compact_api_Hash : rawF 24 = true := rfl
@[simp] theorem boxF_slices_Compact_api_Hash : boxF 24 = false := rfl
@[simp] theorem rawF_dioptrelaw10_Great : rawF 25 = false := rfl
@[simp] theorem boxF_dioptrelaw10_Great : boxF 25 = false := rfl
@[simp] theorem rawF_dioptrelaw08_Great : rawF 26 = false := rfl
@[simp] theorem boxF_dioptrelaw08_Great : boxF 26 = false := rfl
@[simp] theorem rawF_dioptrelaw14_room : rawF 27 = false := rfl
@[simp] theorem boxF_dioptrelaw14_room : boxF 27 = false := rfl
@[simp] theorem rawF_entry_sound : rawF 28 = false := rfl
@[simp] theorem boxF_entry_sound : boxF 28 = false := rfl
@[simp] theorem rawF_entry_body : rawF 29 = false := rfl
@[simp] theorem boxF_entry_body : boxF 29 = false := rfl
@[simp] theorem rawF_slices_Equal_api_Step : rawF 30 = false := rfl
@[simp] theorem boxF_slices_Equal_api_Step : boxF 30 = false := rfl
@[simp] theorem rawF_value_Same : rawF 31 = false := rfl
@[simp] theorem boxF_value_Same : boxF 31 = false := rfl
@[simp] theorem rawF_schema_Same : rawF 32 = false := rfl
@[simp] theorem boxF_schema_Same : boxF 32 = false := rfl
@[simp] theorem rawF_slices_EqualFunc_api_Pair : rawF 33 = false := rfl
@[simp] theorem boxF_slices_EqualFunc_api_Pair : boxF 33 = false := rfl
@[simp] theorem rawF_lens_Same_1 : rawF 34 = false := rfl
@[simp] theorem boxF_lens_Same_1 : boxF 34 = false := rfl
@[simp] theorem rawF_slices_EqualFunc_api_Lens : rawF 35 = false := rfl
@[simp] theorem boxF_slices_EqualFunc_api_Lens : boxF 35 = false := rfl
@[simp] theorem rawF_dioptreref10_Same : rawF 36 = false := rfl
@[simp] theorem boxF_dioptreref10_Same : boxF 36 = false := rfl
@[simp] theorem rawF_dioptreref08_Same : rawF 37 = false := rfl
@[simp] theorem boxF_dioptreref08_Same : boxF 37 = false := rfl
@[simp] theorem rawF_dioptreref09_Same : rawF 38 = false := rfl
@[simp] theorem boxF_dioptreref09_Same : boxF 38 = false := rfl
@[simp] theorem rawF_slices_pdqsortCmpFunc_api_Hash : rawF 39 = false := rfl
@[simp] theorem boxF_slices_pdqsortCmpFunc_api_Hash : boxF 39 = false := rfl
@[simp] theorem rawF_math_bits_Len : rawF 40 = false := rfl
@[simp] theorem boxF_math_bits_Len : boxF 40 = false := rfl
@[simp] theorem rawF_cmp_Compare_byte : rawF 41 = false := rfl
@[simp] theorem boxF_cmp_Compare_byte : boxF 41 = false := rfl
@[simp] theorem rawF_dioptrelaw08_room : rawF 42 = false := rfl
@[simp] theorem boxF_dioptrelaw08_room : boxF 42 = false := rfl
@[simp] theorem rawF_dioptrelaw09_Great : rawF 43 = false := rfl
@[simp] theorem boxF_dioptrelaw09_Great : boxF 43 = false := rfl
@[simp] theorem rawF_entry_rising : rawF 44 = false := rfl
@[simp] theorem boxF_entry_rising : boxF 44 = false := rfl
@[simp] theorem rawF_op_Right : rawF 45 = false := rfl
@[simp] theorem boxF_op_Right : boxF 45 = false := rfl
@[simp] theorem rawF_lens_Right : rawF 46 = false := rfl
@[simp] theorem boxF_lens_Right : boxF 46 = false := rfl
@[simp] theorem rawF_pack_Writer_Byte : rawF 47 = false := rfl
@[simp] theorem boxF_pack_Writer_Byte : boxF 47 = false := rfl
@[simp] theorem rawF_pack_Writer_Raw : rawF 48 = false := rfl
@[simp] theorem boxF_pack_Writer_Raw : boxF 48 = false := rfl
@[simp] theorem rawF_pack_Writer_Number : rawF 49 = false := rfl
@[simp] theorem boxF_pack_Writer_Number : boxF 49 = false := rfl
@[simp] theorem rawF_op_Encode : rawF 50 = false := rfl
@[simp] theorem boxF_op_Encode : boxF 50 = false := rfl
@[simp] theorem rawF_lens_Encode : rawF 51 = false := rfl
@[simp] theorem boxF_lens_Encode : boxF 51 = false := rfl
@[simp] theorem rawF_pack_Writer_Out : rawF 52 = false := rfl
@[simp] theorem boxF_pack_Writer_Out : boxF 52 = false := rfl
@[simp] theorem rawF_slices_Equal_string : rawF 53 = false := rfl
@[simp] theorem boxF_slices_Equal_string : boxF 53 = false := rfl
@[simp] theorem rawF_slices_Equal_uint64 : rawF 54 = false := rfl
@[simp] theorem boxF_slices_Equal_uint64 : boxF 54 = false := rfl
@[simp] theorem rawF_slices_EqualFunc_api_Value : rawF 55 = false := rfl
@[simp] theorem boxF_slices_EqualFunc_api_Value : boxF 55 = false := rfl
@[simp] theorem rawF_slices_EqualFunc_api_Schema : rawF 56 = false := rfl
@[simp] theorem boxF_slices_EqualFunc_api_Schema : boxF 56 = false := rfl
@[simp] theorem rawF_slices_insertionSortCmpFunc_api_Hash : rawF 57 = false := rfl
@[simp] theorem boxF_slices_insertionSortCmpFunc_api_Hash : boxF 57 = false := rfl
@[simp] theorem rawF_math_bits_Len64 : rawF 66 = false := rfl
@[simp] theorem boxF_math_bits_Len64 : boxF 66 = false := rfl
@[simp] theorem rawF_cmp_isNaN_byte : rawF 67 = false := rfl
@[simp] theorem boxF_cmp_isNaN_byte : boxF 67 = false := rfl
@[simp] theorem rawF_dioptrelaw09_room : rawF 68 = false := rfl
@[simp] theorem boxF_dioptrelaw09_room : boxF 68 = false := rfl
@[simp] theorem rawF_path_Right : rawF 69 = false := rfl
@[simp] theorem boxF_path_Right : boxF 69 = false := rfl
@[simp] theorem rawF_value_Right : rawF 70 = false := rfl
@[simp] theorem boxF_value_Right : boxF 70 = false := rfl
@[simp] theorem rawF_lens_right : rawF 71 = false := rfl
@[simp] theorem boxF_lens_right : boxF 71 = false := rfl
@[simp] theorem rawF_value_Encode : rawF 72 = false := rfl
@[simp] theorem boxF_value_Encode : boxF 72 = false := rfl
@[simp] theorem rawF_op_write : rawF 73 = false := rfl
@[simp] theorem boxF_op_write : boxF 73 = false := rfl
@[simp] theorem rawF_lens_uses : rawF 74 = false := rfl
@[simp] theorem boxF_lens_uses : boxF 74 = false := rfl
@[simp] theorem rawF_lens_long : rawF 75 = false := rfl
@[simp] theorem boxF_lens_long : boxF 75 = false := rfl
@[simp] theorem rawF_lens_write : rawF 76 = false := rfl
@[simp] theorem boxF_lens_write : boxF 76 = false := rfl
@[simp] theorem rawF_slices_ContainsFunc_api_Step : rawF 82 = false := rfl
@[simp] theorem boxF_slices_ContainsFunc_api_Step : boxF 82 = false := rfl
@[simp] theorem rawF_path_Right_1 : rawF 83 = false := rfl
@[simp] theorem boxF_path_Right_1 : boxF 83 = false := rfl
@[simp] theorem rawF_path_fine : rawF 84 = false := rfl
@[simp] theorem boxF_path_fine : boxF 84 = false := rfl
@[simp] theorem rawF_value_right : rawF 85 = false := rfl
@[simp] theorem boxF_value_right : boxF 85 = false := rfl
@[simp] theorem rawF_value_Name : rawF 86 = false := rfl
@[simp] theorem boxF_value_Name : boxF 86 = false := rfl
@[simp] theorem rawF_lens_zero : rawF 87 = false := rfl
@[simp] theorem boxF_lens_zero : boxF 87 = false := rfl
@[simp] theorem rawF_lens_typed : rawF 88 = false := rfl
@[simp] theorem boxF_lens_typed : boxF 88 = false := rfl
@[simp] theorem rawF_lens_paired : rawF 89 = false := rfl
@[simp] theorem boxF_lens_paired : boxF 89 = false := rfl
@[simp] theorem rawF_value_write : rawF 90 = false := rfl
@[simp] theorem boxF_value_write : boxF 90 = false := rfl
@[simp] theorem rawF_path_Write : rawF 91 = false := rfl
@[simp] theorem boxF_path_Write : boxF 91 = false := rfl
@[simp] theorem rawF_schema_Encode : rawF 92 = false := rfl
@[simp] theorem boxF_schema_Encode : boxF 92 = false := rfl
@[simp] theorem rawF_pack_Writer_Text : rawF 93 = false := rfl
@[simp] theorem boxF_pack_Writer_Text : boxF 93 = false := rfl
@[simp] theorem rawF_lens_values : rawF 94 = false := rfl
@[simp] theorem boxF_lens_values : boxF 94 = false := rfl
@[simp] theorem rawF_slices_IndexFunc_api_Step : rawF 96 = false := rfl
@[simp] theorem boxF_slices_IndexFunc_api_Step : boxF 96 = false := rfl
@[simp] theorem rawF_value_plain : rawF 97 = false := rfl
@[simp] theorem boxF_value_plain : boxF 97 = false := rfl
@[simp] theorem rawF_slices_ContainsFunc_api_Value : rawF 98 = false := rfl
@[simp] theorem boxF_slices_ContainsFunc_api_Value : boxF 98 = false := rfl
@[simp] theorem rawF_value_right_1 : rawF 99 = false := rfl
@[simp] theorem boxF_value_right_1 : boxF 99 = false := rfl
@[simp] theorem rawF_strings_IndexFunc : rawF 100 = false := rfl
@[simp] theorem boxF_strings_IndexFunc : boxF 100 = false := rfl
@[simp] theorem rawF_value_Name_1 : rawF 101 = false := rfl
@[simp] theorem boxF_value_Name_1 : boxF 101 = false := rfl
@[simp] theorem rawF_schema_Fits : rawF 102 = false := rfl
@[simp] theorem boxF_schema_Fits : boxF 102 = false := rfl
@[simp] theorem rawF_schema_Scalar : rawF 103 = false := rfl
@[simp] theorem boxF_schema_Scalar : boxF 103 = false := rfl
@[simp] theorem rawF_lens_scalar : rawF 104 = false := rfl
@[simp] theorem boxF_lens_scalar : boxF 104 = false := rfl
@[simp] theorem rawF_slices_ContainsFunc_api_Pair : rawF 105 = false := rfl
@[simp] theorem boxF_slices_ContainsFunc_api_Pair : boxF 105 = false := rfl
@[simp] theorem rawF_lens_paired_1 : rawF 106 = false := rfl
@[simp] theorem boxF_lens_paired_1 : boxF 106 = false := rfl
@[simp] theorem rawF_pack_Writer_Bool : rawF 107 = false := rfl
@[simp] theorem boxF_pack_Writer_Bool : boxF 107 = false := rfl
@[simp] theorem rawF_pack_Writer_Int : rawF 108 = false := rfl
@[simp] theorem boxF_pack_Writer_Int : boxF 108 = false := rfl
@[simp] theorem rawF_schema_Right : rawF 109 = false := rfl
@[simp] theorem boxF_schema_Right : boxF 109 = false := rfl
@[simp] theorem rawF_schema_write : rawF 110 = false := rfl
@[simp] theorem boxF_schema_write : boxF 110 = false := rfl
@[simp] theorem rawF_pack_Writer_Bytes : rawF 111 = false := rfl
@[simp] theorem boxF_pack_Writer_Bytes : boxF 111 = false := rfl
@[simp] theorem rawF_value_rising : rawF 112 = false := rfl
@[simp] theorem boxF_value_rising : boxF 112 = false := rfl
@[simp] theorem rawF_value_unlike : rawF 113 = false := rfl
@[simp] theorem boxF_value_unlike : boxF 113 = false := rfl
@[simp] theorem rawF_slices_IndexFunc_api_Value : rawF 114 = false := rfl
@[simp] theorem boxF_slices_IndexFunc_api_Value : boxF 114 = false := rfl
@[simp] theorem rawF_strings_indexFunc : rawF 115 = false := rfl
@[simp] theorem boxF_strings_indexFunc : boxF 115 = false := rfl
@[simp] theorem rawF_schema_fits : rawF 116 = false := rfl
@[simp] theorem boxF_schema_fits : boxF 116 = false := rfl
@[simp] theorem rawF_slices_IndexFunc_api_Pair : rawF 117 = false := rfl
@[simp] theorem boxF_slices_IndexFunc_api_Pair : boxF 117 = false := rfl
@[simp] theorem rawF_schema_right : rawF 118 = false := rfl
@[simp] theorem boxF_schema_right : boxF 118 = false := rfl
@[simp] theorem rawF_slices_Contains_uint64 : rawF 119 = false := rfl
@[simp] theorem boxF_slices_Contains_uint64 : boxF 119 = false := rfl
@[simp] theorem rawF_slices_Contains_string : rawF 120 = false := rfl
@[simp] theorem boxF_slices_Contains_string : boxF 120 = false := rfl
@[simp] theorem rawF_schema_plain : rawF 121 = false := rfl
@[simp] theorem boxF_schema_plain : boxF 121 = false := rfl
@[simp] theorem rawF_slices_ContainsFunc_api_Schema : rawF 122 = false := rfl
@[simp] theorem boxF_slices_ContainsFunc_api_Schema : boxF 122 = false := rfl
@[simp] theorem rawF_schema_right_1 : rawF 123 = false := rfl
@[simp] theorem boxF_schema_right_1 : boxF 123 = false := rfl
@[simp] theorem rawF_slices_Index_uint64 : rawF 124 = false := rfl
@[simp] theorem boxF_slices_Index_uint64 : boxF 124 = false := rfl
@[simp] theorem rawF_slices_Index_string : rawF 125 = false := rfl
@[simp] theorem boxF_slices_Index_string : boxF 125 = false := rfl
@[simp] theorem rawF_schema_names : rawF 126 = false := rfl
@[simp] theorem boxF_schema_names : boxF 126 = false := rfl
@[simp] theorem rawF_schema_unlike : rawF 127 = false := rfl
@[simp] theorem boxF_schema_unlike : boxF 127 = false := rfl
@[simp] theorem rawF_schema_rising : rawF 128 = false := rfl
@[simp] theorem boxF_schema_rising : boxF 128 = false := rfl
@[simp] theorem rawF_slices_IndexFunc_api_Schema : rawF 129 = false := rfl
@[simp] theorem boxF_slices_IndexFunc_api_Schema : boxF 129 = false := rfl
@[simp] theorem rawF_slices_ContainsFunc_string : rawF 130 = false := rfl
@[simp] theorem boxF_slices_ContainsFunc_string : boxF 130 = false := rfl
@[simp] theorem rawF_schema_names_1 : rawF 131 = false := rfl
@[simp] theorem boxF_schema_names_1 : boxF 131 = false := rfl
@[simp] theorem rawF_slices_IsSorted_string : rawF 132 = false := rfl
@[simp] theorem boxF_slices_IsSorted_string : boxF 132 = false := rfl
@[simp] theorem rawF_slices_IndexFunc_string : rawF 133 = false := rfl
@[simp] theorem boxF_slices_IndexFunc_string : boxF 133 = false := rfl
@[simp] theorem rawF_cmp_Less_string : rawF 134 = false := rfl
@[simp] theorem boxF_cmp_Less_string : boxF 134 = false := rfl
@[simp] theorem rawF_cmp_isNaN_string : rawF 135 = false := rfl
@[simp] theorem boxF_cmp_isNaN_string : boxF 135 = false := rfl
end Go.Proofs.YtmibdjbhjjafnaaGreat.am

/- Lists of names in their order, each once: what they are, in plain words; and the answer of entry.Sort, known otherwise. -/
set_option linter.unusedSimpArgs false
namespace Go.Proofs.YtmibdjbhjjafnaaGreat.am
open Go
/-- which of two is ahead -/
def bl : List UInt8 → List UInt8 → Bool
  | _, [] => false
  | [], _ :: _ => true
  | a :: x, b :: y => if a = b then bl x y else decide (a < b)
theorem bl_irrefl : ∀ x, bl x x = false
  | [] => rfl
  | a :: x => by simp [bl, bl_irrefl x]
theorem bl_trans : ∀ x y z, bl x y = true → bl y z = true → bl x z = true
  | [], [], _, h, _ => by simp [bl] at h
  | [], _ :: _, [], _, k => by simp [bl] at k
  | [], _ :: _, _ :: _, _, _ => rfl
  | _ :: _, [], _, h, _ => by simp [bl] at h
  | _ :: _, _ :: _, [], _, k => by simp [bl] at k
  | a :: x, b :: y, c :: z, h, k => by
    have ih := bl_trans x y z
    simp only [bl] at h k ⊢
    by_cases e1 : a = b
    · subst e1
      by_cases e2 : a = c
      · subst e2
        simp only [if_true] at h k ⊢
        exact ih h k
      · simpa only [if_neg e2] using k
    · by_cases e2 : b = c
      · subst e2
        simpa only [if_neg e1] using h
      · simp only [if_neg e1, decide_eq_true_eq] at h
        simp only [if_neg e2, decide_eq_true_eq] at k
        have h3 : a < c := UInt8.lt_trans h k
        have e3 : a ≠ c := fun e => by subst e; exact absurd h3 (by simp)
        simp [e3, h3]
theorem bl_total : ∀ x y, x ≠ y → bl x y = false → bl y x = true
  | [], [], h, _ => (h rfl).elim
  | [], _ :: _, _, k => by simp [bl] at k
  | _ :: _, [], _, _ => rfl
  | a :: x, b :: y, h, k => by
    have ih := bl_total x y
    simp only [bl] at k ⊢
    by_cases e : a = b
    · subst e
      simp only [if_true] at k ⊢
      exact ih (fun e => h (by rw [e])) k
    · simp only [if_neg e, decide_eq_false_iff_not, UInt8.not_lt] at k
      have e' : b ≠ a := fun e' => e e'.symm
      simp only [if_neg e', decide_eq_true_eq]
      exact UInt8.lt_of_le_of_ne k e'
theorem bl_asymm {x y : List UInt8} (h : bl x y = true) : bl y x = false := by
  cases k : bl y x
  · rfl
  · have := bl_trans x y x h k
    rw [bl_irrefl] at this
    cases this

def insU (x : List UInt8) : List (List UInt8) → List (List UInt8)
  | [] => [x]
  | y :: r => if x = y then y :: r else if bl x y = true then x :: y :: r else y :: insU x r
def sortU (l : List (List UInt8)) : List (List UInt8) := l.foldr insU []
theorem mem_insU {x z : List UInt8} : ∀ {l : List (List UInt8)}, z ∈ insU x l ↔ z = x ∨ z ∈ l
  | [] => by simp [insU]
  | y :: r => by
    simp only [insU]
    split
    · rename_i e; subst e; simp
    · split
      · simp
      · simp only [List.mem_cons, mem_insU (l := r)]
        constructor
        · rintro (h | h | h)
          · exact .inr (.inl h)
          · exact .inl h
          · exact .inr (.inr h)
        · rintro (h | h | h)
          · exact .inr (.inl h)
          · exact .inl h
          · exact .inr (.inr h)
theorem mem_sortU {z : List UInt8} : ∀ {l : List (List UInt8)}, z ∈ sortU l ↔ z ∈ l
  | [] => by simp [sortU]
  | x :: r => by
    have := mem_sortU (z := z) (l := r)
    simp only [sortU] at this
    simp [sortU, mem_insU, this]
/-- they rise -/
def Rise (l : List (List UInt8)) : Prop := l.Pairwise fun x y => bl x y = true
theorem rise_insU {x : List UInt8} : ∀ {l : List (List UInt8)}, Rise l → Rise (insU x l)
  | [], _ => by simp [insU, Rise]
  | y :: r, h => by
    have h1 := List.pairwise_cons.1 h
    simp only [insU]
    split
    · exact h
    · rename_i e
      split
      · rename_i k
        refine List.pairwise_cons.2 ⟨fun z hz => ?_, h⟩
        rcases List.mem_cons.1 hz with rfl | hz
        · exact k
        · exact bl_trans _ _ _ k (h1.1 z hz)
      · rename_i k
        refine List.pairwise_cons.2 ⟨fun z hz => ?_, rise_insU h1.2⟩
        rcases mem_insU.1 hz with rfl | hz
        · exact bl_total _ _ e (by simpa using k)
        · exact h1.1 z hz
theorem rise_sortU : ∀ (l : List (List UInt8)), Rise (sortU l)
  | [] => List.Pairwise.nil
  | x :: r => rise_insU (rise_sortU r)
theorem insU_length (x : List UInt8) : ∀ (l : List (List UInt8)), (insU x l).length ≤ l.length + 1
  | [] => by simp [insU]
  | y :: r => by
    have := insU_length x r
    simp only [insU]
    split
    · simp
    · split <;> simp <;> omega
theorem sortU_length : ∀ (l : List (List UInt8)), (sortU l).length ≤ l.length
  | [] => by simp [sortU]
  | x :: r => by
    have h1 := sortU_length r
    have h2 := insU_length x (sortU r)
    simp only [sortU, List.foldr_cons, List.length_cons] at h1 h2 ⊢
    omega
theorem sortU_nil {l : List (List UInt8)} : sortU l = [] ↔ l = [] := by
  constructor
  · intro h
    cases l with
    | nil => rfl
    | cons x r =>
      have : x ∈ sortU (x :: r) := mem_sortU.2 (by simp)
      rw [h] at this
      cases this
  · rintro rfl; rfl
/-- two rising lists of the same names are the same -/
theorem rise_unique : ∀ (l m : List (List UInt8)), Rise l → Rise m → (∀ z, z ∈ l ↔ z ∈ m) → l = m
  | [], [], _, _, _ => rfl
  | [], y :: m, _, _, h => by have := (h y).2 (by simp); cases this
  | x :: l, [], _, _, h => by have := (h x).1 (by simp); cases this
  | x :: l, y :: m, hl, hm, h => by
    have h1 := List.pairwise_cons.1 hl
    have h2 := List.pairwise_cons.1 hm
    have e : x = y := by
      rcases List.mem_cons.1 ((h x).1 (by simp)) with e | hx
      · exact e
      · rcases List.mem_cons.1 ((h y).2 (by simp)) with e | hy
        · exact e.symm
        · have a := h2.1 x hx
          have b := h1.1 y hy
          rw [bl_asymm a] at b
          cases b
    subst e
    refine congrArg _ (rise_unique l m h1.2 h2.2 fun z => ⟨fun hz => ?_, fun hz => ?_⟩)
    · rcases List.mem_cons.1 ((h z).1 (by simp [hz])) with rfl | hz'
      · have := h1.1 z hz; rw [bl_irrefl] at this; cases this
      · exact hz'
    · rcases List.mem_cons.1 ((h z).2 (by simp [hz])) with rfl | hz'
      · have := h2.1 z hz; rw [bl_irrefl] at this; cases this
      · exact hz'
/-- each name is there once -/
theorem rise_count {z : List UInt8} : ∀ {l : List (List UInt8)}, Rise l → z ∈ l → l.countP (fun x => x == z) = 1
  | [], _, h => by cases h
  | x :: l, hl, h => by
    have h1 := List.pairwise_cons.1 hl
    by_cases e : x = z
    · subst e
      have : l.countP (fun y => y == x) = 0 := by
        rw [List.countP_eq_zero]
        intro y hy k
        have := h1.1 y hy
        rw [eq_of_beq k, bl_irrefl] at this
        cases this
      rw [List.countP_cons, this]
      simp
    · have hz : z ∈ l := by simpa [Ne.symm e] using h
      have e' : (x == z) = false := by simpa using e
      rw [List.countP_cons, rise_count h1.2 hz, e']
      simp

/-- the bytes of cells -/
def unB : List AV → Option (List UInt8)
  | [] => some []
  | .int .u8 n :: r => if 0 ≤ n ∧ n < 256 then (unB r).map fun l => UInt8.ofNat n.toNat :: l else none
  | _ => none
def unHs : List (List AV) → Option (List (List UInt8))
  | [] => some []
  | c :: r => match unB c, unHs r with
    | some x, some l => if x.length = 32 then some (x :: l) else none
    | _, _ => none
theorem unB_encB : ∀ l, unB (encB l) = some l
  | [] => rfl
  | b :: r => by
    have := unB_encB r
    have hb := b.toNat_lt
    simp only [encB] at this
    simp only [encB, List.map_cons, cellB, unB, this]
    rw [if_pos (by omega)]
    simp
theorem unHs_enc : ∀ l : List (List UInt8), (∀ x ∈ l, x.length = 32) → unHs (l.map encB) = some l
  | [], _ => rfl
  | x :: r, h => by simp [unHs, unB_encB, unHs_enc r fun y hy => h y (by simp [hy]), h x (by simp)]
/-- in their order, each as often as it is there -/
def insD (x : List UInt8) : List (List UInt8) → List (List UInt8)
  | [] => [x]
  | y :: r => if bl y x = true then y :: insD x r else x :: y :: r
def sortD (l : List (List UInt8)) : List (List UInt8) := l.foldr insD []
/-- they don't fall -/
def Asc (l : List (List UInt8)) : Prop := l.Pairwise fun x y => bl y x = false
theorem insD_perm (x : List UInt8) : ∀ l, (insD x l).Perm (x :: l)
  | [] => List.Perm.refl _
  | y :: r => by
    simp only [insD]
    split
    · exact ((insD_perm x r).cons y).trans (List.Perm.swap x y r)
    · exact List.Perm.refl _
theorem sortD_perm : ∀ l, (sortD l).Perm l
  | [] => List.Perm.refl _
  | x :: r => (insD_perm x (sortD r)).trans ((sortD_perm r).cons x)
theorem asc_insD {x : List UInt8} : ∀ {l : List (List UInt8)}, Asc l → Asc (insD x l)
  | [], _ => by simp [insD, Asc]
  | y :: r, h => by
    have h1 := List.pairwise_cons.1 h
    simp only [insD]
    split
    · rename_i k
      refine List.pairwise_cons.2 ⟨fun z hz => ?_, asc_insD h1.2⟩
      rcases List.mem_cons.1 ((insD_perm x r).mem_iff.1 hz) with rfl | hz
      · exact bl_asymm k
      · exact h1.1 z hz
    · rename_i k
      have k : bl y x = false := by simpa using k
      refine List.pairwise_cons.2 ⟨fun z hz => ?_, h⟩
      rcases List.mem_cons.1 hz with rfl | hz
      · exact k
      · cases e : bl z x
        · rfl
        · by_cases e2 : z = y
          · subst e2; rw [k] at e; cases e
          · have e3 := bl_total z y e2 (h1.1 z hz)
            rw [bl_trans _ _ _ e3 e] at k; cases k
theorem asc_sortD : ∀ (l : List (List UInt8)), Asc (sortD l)
  | [] => List.Pairwise.nil
  | x :: r => asc_insD (asc_sortD r)
/-- two such lists of the same names are the same -/
theorem asc_unique : ∀ (l m : List (List UInt8)), Asc l → Asc m → l.Perm m → l = m
  | [], m, _, _, h => h.nil_eq
  | x :: l, [], _, _, h => by have := h.length_eq; simp at this
  | x :: l, y :: m, hl, hm, h => by
    have h1 := List.pairwise_cons.1 hl
    have h2 := List.pairwise_cons.1 hm
    have e : x = y := by
      by_cases e : x = y
      · exact e
      exfalso
      have a : y ∈ l := by
        rcases List.mem_cons.1 (h.mem_iff.2 (by simp : y ∈ y :: m)) with e' | hy
        · exact absurd e'.symm e
        · exact hy
      have b : x ∈ m := by
        rcases List.mem_cons.1 (h.mem_iff.1 (by simp : x ∈ x :: l)) with e' | hx
        · exact absurd e' e
        · exact hx
      have := bl_total x y e (h2.1 x b)
      rw [h1.1 y a] at this; cases this
    subst e
    rw [asc_unique l m h1.2 h2.2 h.cons_inv]
theorem mem_sortD {z : List UInt8} {l : List (List UInt8)} : z ∈ sortD l ↔ z ∈ l := (sortD_perm l).mem_iff
/-- each once -/
def dedup : List (List UInt8) → List (List UInt8)
  | [] => []
  | [x] => [x]
  | x :: y :: r => if x = y then dedup (y :: r) else x :: dedup (y :: r)
theorem dedup_cons (x y : List UInt8) (r : List (List UInt8)) : dedup (x :: y :: r) = if x = y then dedup (y :: r) else x :: dedup (y :: r) := rfl
theorem mem_dedup {z : List UInt8} : ∀ {l : List (List UInt8)}, z ∈ dedup l ↔ z ∈ l
  | [] => by simp [dedup]
  | [x] => by simp [dedup]
  | x :: y :: r => by
    have ih := mem_dedup (z := z) (l := y :: r)
    rw [dedup_cons]
    split
    · rename_i e; subst e; rw [ih]; simp
    · rw [List.mem_cons, ih]; simp
theorem rise_dedup : ∀ {l : List (List UInt8)}, Asc l → Rise (dedup l)
  | [], _ => List.Pairwise.nil
  | [x], _ => by simp [dedup, Rise]
  | x :: y :: r, h => by
    have h1 := List.pairwise_cons.1 h
    have ih := rise_dedup h1.2
    rw [dedup_cons]
    split
    · exact ih
    · rename_i e
      refine List.pairwise_cons.2 ⟨fun z hz => ?_, ih⟩
      have hz := mem_dedup.1 hz
      by_cases e2 : x = z
      · subst e2
        exfalso
        rcases List.mem_cons.1 hz with e3 | hz
        · exact e e3
        · have h2 := List.pairwise_cons.1 h1.2
          have := bl_total y x (fun e' => e e'.symm) (h1.1 y (by simp))
          rw [h2.1 x hz] at this; cases this
      · cases k : bl x z
        · have := bl_total x z e2 k
          rw [h1.1 z hz] at this; cases this
        · rfl
theorem dedup_sortD (l : List (List UInt8)) : dedup (sortD l) = sortU l :=
  rise_unique _ _ (rise_dedup (asc_sortD l)) (rise_sortU l) fun z => by rw [mem_dedup, mem_sortD, mem_sortU]

/-- slices.SortFunc's answer at names, by entry.Sort's comparison (function c): the box holds them in their order -/
def sortHsP (c : FuncId) (args : List AV) (S : St) : Option (AV × St) :=
  match args with
  | [.nils, .fn g [] []] => if g = c then some (.tup [], S) else none
  | [.oref i 0 n 32, .fn g [] []] => if g = c then
      match S[i]? with
      | some (.mem cs bt false) => if cs.length = n * 32 ∧ n < 4611686018427387904 then
          match elemsOf S (.oref i 0 n 32) with
          | some (_, es) => (unHs es).map fun l => (.tup [], S.set i (.mem ((sortD l).map encB).flatten bt false))
          | none => none
        else none
      | _ => none
    else none
  | _ => none
end Go.Proofs.YtmibdjbhjjafnaaGreat.am

/- Which functions of the library are answered otherwise than by their code. Definitions alone. -/
namespace Go.Proofs.YtmibdjbhjjafnaaGreat.am
open Go
abbrev Prim := List AV → St → Option (AV × St)
def prims : List (FuncId × Prim) :=
(21, sortHsP 22) ::
  []
def nk : NK := ⟨fun _ => false, fun f => prims.lookup f⟩
@[simp] theorem nk_keep (f : FuncId) : nk.keep f = false := rfl
end Go.Proofs.YtmibdjbhjjafnaaGreat.am

/- Which functions are answered otherwise, printed by a program (tools/gen.py). -/
namespace Go.Proofs.YtmibdjbhjjafnaaGreat.am
open Go
@[simp] theorem nkp_dioptrelaw17_EntrySame : nk.prim 3 = none := rfl
@[simp] theorem nkp_dioptrelaw17_EntrySorts : nk.prim 4 = none := rfl
@[simp] theorem nkp_dioptrelaw17_Great : nk.prim 5 = none := rfl
@[simp] theorem nkp_dioptrelaw17_awake : nk.prim 6 = none := rfl
@[simp] theorem nkp_entry_Same : nk.prim 7 = none := rfl
@[simp] theorem nkp_dioptreref17_Same : nk.prim 8 = none := rfl
@[simp] theorem nkp_entry_Sort : nk.prim 9 = none := rfl
@[simp] theorem nkp_entry_Seed : nk.prim 10 = none := rfl
@[simp] theorem nkp_entry_Less : nk.prim 11 = none := rfl
@[simp] theorem nkp_dioptreref17_Less : nk.prim 12 = none := rfl
@[simp] theorem nkp_dioptrelaw12_Great : nk.prim 13 = none := rfl
@[simp] theorem nkp_dioptrelaw14_Great : nk.prim 14 = none := rfl
@[simp] theorem nkp_entry_Encode : nk.prim 15 = none := rfl
@[simp] theorem nkp_slices_Equal_api_Hash : nk.prim 16 = none := rfl
@[simp] theorem nkp_op_Same : nk.prim 17 = none := rfl
@[simp] theorem nkp_lens_Same : nk.prim 18 = none := rfl
@[simp] theorem nkp_dioptreref12_Same : nk.prim 19 = none := rfl
@[simp] theorem nkp_dioptreref14_Same : nk.prim 20 = none := rfl
@[simp] theorem nkp_slices_SortFunc_api_Hash : nk.prim 21 = some (sortHsP 22) := rfl
@[simp] theorem nkp_entry_Sort_1 : nk.prim 22 = none := rfl
@[simp] theorem nkp_slices_Compare_byte : nk.prim 23 = none := rfl
@[simp] theorem nkp_slices_Compact_api_Hash : nk.prim 24 = none := rfl
@[simp] theorem nkp_dioptrelaw10_Great : nk.prim 25 = none := rfl
@[simp] theorem nkp_dioptrelaw08_Great : nk.prim 26 = none := rfl
@[simp] theorem nkp_dioptrelaw14_room : nk.prim 27 = none := rfl
@[simp] theorem nkp_entry_sound : nk.prim 28 = none := rfl
@[simp] theorem nkp_entry_body : nk.prim 29 = none := rfl
@[simp] theorem nkp_slices_Equal_api_Step : nk.prim 30 = none := rfl
@[simp] theorem nkp_value_Same : nk.prim 31 = none := rfl
@[simp] theorem nkp_schema_Same : nk.prim 32 = none := rfl
@[simp] theorem nkp_slices_EqualFunc_api_Pair : nk.prim 33 = none := rfl
@[simp] theorem nkp_lens_Same_1 : nk.prim 34 = none := rfl
@[simp] theorem nkp_slices_EqualFunc_api_Lens : nk.prim 35 = none := rfl
@[simp] theorem nkp_dioptreref10_Same : nk.prim 36 = none := rfl
@[simp] theorem nkp_dioptreref08_Same : nk.prim 37 = none := rfl
@[simp] theorem nkp_dioptreref09_Same : nk.prim 38 = none := rfl
@[simp] theorem nkp_slices_pdqsortCmpFunc_api_Hash : nk.prim 39 = none := rfl
@[simp] theorem nkp_math_bits_Len : nk.prim 40 = none := rfl
@[simp] theorem nkp_cmp_Compare_byte : nk.prim 41 = none := rfl
@[simp] theorem nkp_dioptrelaw08_room : nk.prim 42 = none := rfl
@[simp] theorem nkp_dioptrelaw09_Great : nk.prim 43 = none := rfl
@[simp] theorem nkp_entry_rising : nk.prim 44 = none := rfl
@[simp] theorem nkp_op_Right : nk.prim 45 = none := rfl
@[simp] theorem nkp_lens_Right : nk.prim 46 = none := rfl
@[simp] theorem nkp_pack_Writer_Byte : nk.prim 47 = none := rfl
@[simp] theorem nkp_pack_Writer_Raw : nk.prim 48 = none := rfl
@[simp] theorem nkp_pack_Writer_Number : nk.prim 49 = none := rfl
@[simp] theorem nkp_op_Encode : nk.prim 50 = none := rfl
@[simp] theorem nkp_lens_Encode : nk.prim 51 = none := rfl
@[simp] theorem nkp_pack_Writer_Out : nk.prim 52 = none := rfl
@[simp] theorem nkp_slices_Equal_string : nk.prim 53 = none := rfl
@[simp] theorem nkp_slices_Equal_uint64 : nk.prim 54 = none := rfl
@[simp] theorem nkp_slices_EqualFunc_api_Value : nk.prim 55 = none := rfl
@[simp] theorem nkp_slices_EqualFunc_api_Schema : nk.prim 56 = none := rfl
@[simp] theorem nkp_slices_insertionSortCmpFunc_api_Hash : nk.prim 57 = none := rfl
@[simp] theorem nkp_math_bits_Len64 : nk.prim 66 = none := rfl
@[simp] theorem nkp_cmp_isNaN_byte : nk.prim 67 = none := rfl
@[simp] theorem nkp_dioptrelaw09_room : nk.prim 68 = none := rfl
@[simp] theorem nkp_path_Right : nk.prim 69 = none := rfl
@[simp] theorem nkp_value_Right : nk.prim 70 = none := rfl
@[simp] theorem nkp_lens_right : nk.prim 71 = none := rfl
@[simp] theorem nkp_value_Encode : nk.prim 72 = none := rfl
@[simp] theorem nkp_op_write : nk.prim 73 = none := rfl
@[simp] theorem nkp_lens_uses : nk.prim 74 = none := rfl
@[simp] theorem nkp_lens_long : nk.prim 75 = none := rfl
@[simp] theorem nkp_lens_write : nk.prim 76 = none := rfl
@[simp] theorem nkp_slices_ContainsFunc_api_Step : nk.prim 82 = none := rfl
@[simp] theorem nkp_path_Right_1 : nk.prim 83 = none := rfl
@[simp] theorem nkp_path_fine : nk.prim 84 = none := rfl
@[simp] theorem nkp_value_right : nk.prim 85 = none := rfl
@[simp] theorem nkp_value_Name : nk.prim 86 = none := rfl
@[simp] theorem nkp_lens_zero : nk.prim 87 = none := rfl
@[simp] theorem nkp_lens_typed : nk.prim 88 = none := rfl
@[simp] theorem nkp_lens_paired : nk.prim 89 = none := rfl
@[simp] theorem nkp_value_write : nk.prim 90 = none := rfl
@[simp] theorem nkp_path_Write : nk.prim 91 = none := rfl
@[simp] theorem nkp_schema_Encode : nk.prim 92 = none := rfl
@[simp] theorem nkp_pack_Writer_Text : nk.prim 93 = none := rfl
@[simp] theorem nkp_lens_values : nk.prim 94 = none := rfl
@[simp] theorem nkp_slices_IndexFunc_api_Step : nk.prim 96 = none := rfl
@[simp] theorem nkp_value_plain : nk.prim 97 = none := rfl
@[simp] theorem nkp_slices_ContainsFunc_api_Value : nk.prim 98 = none := rfl
@[simp] theorem nkp_value_right_1 : nk.prim 99 = none := rfl
@[simp] theorem nkp_strings_IndexFunc : nk.prim 100 = none := rfl
@[simp] theorem nkp_value_Name_1 : nk.prim 101 = none := rfl
@[simp] theorem nkp_schema_Fits : nk.prim 102 = none := rfl
@[simp] theorem nkp_schema_Scalar : nk.prim 103 = none := rfl
@[simp] theorem nkp_lens_scalar : nk.prim 104 = none := rfl
@[simp] theorem nkp_slices_ContainsFunc_api_Pair : nk.prim 105 = none := rfl
@[simp] theorem nkp_lens_paired_1 : nk.prim 106 = none := rfl
@[simp] theorem nkp_pack_Writer_Bool : nk.prim 107 = none := rfl
@[simp] theorem nkp_pack_Writer_Int : nk.prim 108 = none := rfl
@[simp] theorem nkp_schema_Right : nk.prim 109 = none := rfl
@[simp] theorem nkp_schema_write : nk.prim 110 = none := rfl
@[simp] theorem nkp_pack_Writer_Bytes : nk.prim 111 = none := rfl
@[simp] theorem nkp_value_rising : nk.prim 112 = none := rfl
@[simp] theorem nkp_value_unlike : nk.prim 113 = none := rfl
@[simp] theorem nkp_slices_IndexFunc_api_Value : nk.prim 114 = none := rfl
@[simp] theorem nkp_strings_indexFunc : nk.prim 115 = none := rfl
@[simp] theorem nkp_schema_fits : nk.prim 116 = none := rfl
@[simp] theorem nkp_slices_IndexFunc_api_Pair : nk.prim 117 = none := rfl
@[simp] theorem nkp_schema_right : nk.prim 118 = none := rfl
@[simp] theorem nkp_slices_Contains_uint64 : nk.prim 119 = none := rfl
@[simp] theorem nkp_slices_Contains_string : nk.prim 120 = none := rfl
@[simp] theorem nkp_schema_plain : nk.prim 121 = none := rfl
@[simp] theorem nkp_slices_ContainsFunc_api_Schema : nk.prim 122 = none := rfl
@[simp] theorem nkp_schema_right_1 : nk.prim 123 = none := rfl
@[simp] theorem nkp_slices_Index_uint64 : nk.prim 124 = none := rfl
@[simp] theorem nkp_slices_Index_string : nk.prim 125 = none := rfl
@[simp] theorem nkp_schema_names : nk.prim 126 = none := rfl
@[simp] theorem nkp_schema_unlike : nk.prim 127 = none := rfl
@[simp] theorem nkp_schema_rising : nk.prim 128 = none := rfl
@[simp] theorem nkp_slices_IndexFunc_api_Schema : nk.prim 129 = none := rfl
@[simp] theorem nkp_slices_ContainsFunc_string : nk.prim 130 = none := rfl
@[simp] theorem nkp_schema_names_1 : nk.prim 131 = none := rfl
@[simp] theorem nkp_slices_IsSorted_string : nk.prim 132 = none := rfl
@[simp] theorem nkp_slices_IndexFunc_string : nk.prim 133 = none := rfl
@[simp] theorem nkp_cmp_Less_string : nk.prim 134 = none := rfl
@[simp] theorem nkp_cmp_isNaN_string : nk.prim 135 = none := rfl
end Go.Proofs.YtmibdjbhjjafnaaGreat.am
