/-
  Part 4 of what the statement rests on: LpI1, LpC1, LpC2, LpC4, LpC5, LpC6. No condition.
-/
import Derived.Test.YtcememnoihgipaaGreatDoorLp3
import Derived.Test.YtcememnoihgipaaGreatDoorRows

set_option linter.all false

/-! LpI1 -/

set_option maxRecDepth 100000
namespace Lp
open Go Go.Proofs
def t_int64 : TypeId := 2
def t_int : TypeId := 3
def t_bool : TypeId := 4
def t_uint8 : TypeId := 5
def t_abi_BoundsErrorCode : TypeId := 6
def t_string : TypeId := 9
def t_uintptr : TypeId := 12
def t_P_runtime_PanicNilError : TypeId := 16
def t_P_abi_Type : TypeId := 17
def t_int32 : TypeId := 21
def t_L_api_Atom : TypeId := 22
def t_api_Node : TypeId := 24
def t_api_Atom : TypeId := 27
def t_func_api_Atom__bool : TypeId := 28
def t__2_int : TypeId := 33
def t_L_api_Node : TypeId := 35
def t_api_Val : TypeId := 36
def t_L_api_Val : TypeId := 48
def t_L_string : TypeId := 50
def t_api_Type : TypeId := 55
def t_api_Path : TypeId := 57
def t_api_Errno : TypeId := 60
def t_api_Ty : TypeId := 73
def t_L_int : TypeId := 74
def t_api_Edit : TypeId := 94
def t_api_Step : TypeId := 97
def t_func_api_Val__api_Val__int : TypeId := 106
def t_map_int_int : TypeId := 107
def t_L_bool : TypeId := 138
def t_val_open : TypeId := 169
def t_L_val_open : TypeId := 170
def t_func_val_open__bool : TypeId := 173
def t_P_strings_Builder : TypeId := 205
def t_L_uint8 : TypeId := 206
def t_utf8_acceptRange : TypeId := 221
def t_func_int32__bool : TypeId := 234
def t_uint32 : TypeId := 242
def t_P_uint8 : TypeId := 248
def t__0_P_runtime_PanicNilError : TypeId := 313
def t_abi_TFlag : TypeId := 316
def t_abi_Kind : TypeId := 317
def t_func_unsafe_Pointer__unsafe_Pointer__bool : TypeId := 318
def t_abi_NameOff : TypeId := 319
def t_abi_TypeOff : TypeId := 320
def f_loupelaw11_AtomTurns : FuncId := 4
def f_loupelaw11_alive : FuncId := 22
def f_atom_Right : FuncId := 23
def f_louperef11_Right : FuncId := 24
def f_louperef11_All : FuncId := 25
def f_louperef11_Member : FuncId := 26
def f_atom_Holds : FuncId := 27
def f_louperef11_Holds : FuncId := 28
def f_atom_Turn : FuncId := 29
def f_atom_Member : FuncId := 31
def f_louperef02_Utf : FuncId := 37
def f_louperef02_Right : FuncId := 42
def f_val_Names : FuncId := 44
def f_atom_Beside : FuncId := 81
def f_atom_Least : FuncId := 82
def f_atom_isPlain : FuncId := 83
def f_louperef11_plain : FuncId := 84
def f_louperef11_Lets : FuncId := 85
def f_order_Cmp : FuncId := 86
def f_louperef10_Says : FuncId := 87
def f_louperef05_Cmp : FuncId := 88
def f_slices_ContainsFunc_L_api_Atom_api_Atom_ : FuncId := 89
def f_atom_Member_1 : FuncId := 90
def f_val_Right : FuncId := 94
def f_val_each : FuncId := 95
def f_louperef02_Names : FuncId := 96
def f_louperef02_Parts : FuncId := 97
def f_louperef02_Rune : FuncId := 98
def f_val_Parts : FuncId := 99
def f_louperef02_Next : FuncId := 105
def f_louperef02_plain : FuncId := 106
def f_louperef02_rising : FuncId := 107
def f_num_Make : FuncId := 151
def f_atom_up : FuncId := 152
def f_atom_down : FuncId := 153
def f_strings_Repeat : FuncId := 154
def f_atom_candidates : FuncId := 155
def f_cmp_Compare_int_ : FuncId := 156
def f_num_Cmp : FuncId := 157
def f_cmp_Compare_string_ : FuncId := 158
def f_slices_Compare_L_string_string_ : FuncId := 159
def f_slices_CompareFunc_L_api_Val_L_api_Val_api_Val_api_Val_ : FuncId := 160
def f_louperef05_sign : FuncId := 161
def f_louperef01_Cmp : FuncId := 162
def f_louperef05_rows : FuncId := 163
def f_louperef05_names : FuncId := 164
def f_slices_IndexFunc_L_api_Atom_api_Atom_ : FuncId := 165
def f_unicode_utf8_ValidString : FuncId := 166
def f_val_isPlain : FuncId := 170
def f_slices_ContainsFunc_L_val_open_val_open_ : FuncId := 171
def f_val_Right_1 : FuncId := 172
def f_val_each_1 : FuncId := 173
def f_val_behind : FuncId := 174
def f_slices_Clone_api_Val_api_Node_ : FuncId := 175
def f_louperef02_own : FuncId := 176
def f_louperef02_cont : FuncId := 177
def f_louperef01_Right : FuncId := 184
def f_num_isFigures : FuncId := 207
def f_strings_TrimLeft : FuncId := 208
def f_strings_TrimRight : FuncId := 209
def f_num_isPower : FuncId := 210
def f_atom_candidates_1 : FuncId := 217
def f_cmp_isNaN_int_ : FuncId := 218
def f_num_size : FuncId := 219
def f_cmp_isNaN_string_ : FuncId := 220
def f_louperef01_at : FuncId := 221
def f_num_Right : FuncId := 226
def f_slices_IndexFunc_L_val_open_val_open_ : FuncId := 227
def f_louperef01_figures : FuncId := 230
def f_strings_TrimFunc : FuncId := 244
def f_num_isFigure : FuncId := 245
def f_strings_Trim : FuncId := 261
def tabD : List TInfo := [
  ⟨.other, 1, 0, .tuple ⟨[]⟩⟩,
  ⟨.other, 1, 8, .nilFunc⟩,
  ⟨(.int .i64), 1, 8, .int .i64 0⟩,
  ⟨(.int .i64), 1, 8, .int .i64 0⟩,
  ⟨.bool, 1, 1, .bool false⟩,
  ⟨(.int .u8), 1, 1, .int .u8 0⟩,
  ⟨(.int .u8), 1, 1, .int .u8 0⟩,
  ⟨(.struct [(0, t_int64), (1, t_int), (2, t_bool), (3, t_abi_BoundsErrorCode)]), 4, 24, .agg ⟨[.int .i64 0, .int .i64 0, .bool false, .int .u8 0]⟩⟩,
  ⟨(.struct [(0, t_int64), (1, t_int), (2, t_bool), (3, t_abi_BoundsErrorCode)]), 4, 24, .agg ⟨[.int .i64 0, .int .i64 0, .bool false, .int .u8 0]⟩⟩,
  ⟨.str, 1, 16, .string ⟨⟨[]⟩⟩⟩,
  ⟨.str, 1, 16, .string ⟨⟨[]⟩⟩⟩,
  ⟨.str, 1, 16, .string ⟨⟨[]⟩⟩⟩,
  ⟨(.int .u64), 1, 8, .int .u64 0⟩,
  ⟨(.struct [(0, t_string), (1, t_uintptr)]), 2, 24, .agg ⟨[.string ⟨⟨[]⟩⟩, .int .u64 0]⟩⟩,
  ⟨(.struct [(0, t_string), (1, t_uintptr)]), 2, 24, .agg ⟨[.string ⟨⟨[]⟩⟩, .int .u64 0]⟩⟩,
  ⟨.other, 1, 8, .pointer none⟩,
  ⟨.other, 1, 8, .pointer none⟩,
  ⟨.other, 1, 8, .pointer none⟩,
  ⟨(.struct [(0, t_P_abi_Type)]), 1, 8, .agg ⟨[.pointer none]⟩⟩,
  ⟨(.struct [(0, t_P_abi_Type)]), 1, 8, .agg ⟨[.pointer none]⟩⟩,
  ⟨.other, 1, 16, .nilIface⟩,
  ⟨(.int .i32), 1, 4, .int .i32 0⟩,
  ⟨(.slice t_api_Atom), 1, 24, .slice none 0 0⟩,
  ⟨(.struct [(0, t_int), (1, t_int), (2, t_string), (3, t_string), (4, t_bool), (5, t_int)]), 6, 64, .agg ⟨[.int .i64 0, .int .i64 0, .string ⟨⟨[]⟩⟩, .string ⟨⟨[]⟩⟩, .bool false, .int .i64 0]⟩⟩,
  ⟨(.struct [(0, t_int), (1, t_int), (2, t_string), (3, t_string), (4, t_bool), (5, t_int)]), 6, 64, .agg ⟨[.int .i64 0, .int .i64 0, .string ⟨⟨[]⟩⟩, .string ⟨⟨[]⟩⟩, .bool false, .int .i64 0]⟩⟩,
  ⟨.other, 1, 8, .nilFunc⟩,
  ⟨(.struct [(0, t_int), (1, t_api_Node)]), 7, 72, .agg ⟨[.int .i64 0, .int .i64 0, .int .i64 0, .string ⟨⟨[]⟩⟩, .string ⟨⟨[]⟩⟩, .bool false, .int .i64 0]⟩⟩,
  ⟨(.struct [(0, t_int), (1, t_api_Node)]), 7, 72, .agg ⟨[.int .i64 0, .int .i64 0, .int .i64 0, .string ⟨⟨[]⟩⟩, .string ⟨⟨[]⟩⟩, .bool false, .int .i64 0]⟩⟩,
  ⟨.other, 1, 8, .nilFunc⟩,
  ⟨.other, 1, 8, .nilFunc⟩,
  ⟨.other, 1, 8, .nilFunc⟩,
  ⟨.other, 1, 8, .nilFunc⟩,
  ⟨.other, 1, 8, .nilFunc⟩,
  ⟨(.array 2 t_int), 2, 16, .agg ⟨[.int .i64 0, .int .i64 0]⟩⟩,
  ⟨.other, 1, 8, .nilFunc⟩,
  ⟨(.slice t_api_Node), 1, 24, .slice none 0 0⟩,
  ⟨(.slice t_api_Node), 1, 24, .slice none 0 0⟩,
  ⟨.other, 1, 8, .nilFunc⟩,
  ⟨.other, 1, 0, .tuple ⟨[.slice none 0 0, .bool false]⟩⟩,
  ⟨.other, 1, 8, .nilFunc⟩,
  ⟨.other, 1, 8, .nilFunc⟩,
  ⟨.other, 1, 8, .nilFunc⟩,
  ⟨.other, 1, 8, .nilFunc⟩,
  ⟨.other, 1, 8, .nilFunc⟩,
  ⟨.other, 1, 8, .nilFunc⟩,
  ⟨(.array 2 t_string), 2, 32, .agg ⟨[.string ⟨⟨[]⟩⟩, .string ⟨⟨[]⟩⟩]⟩⟩,
  ⟨.other, 1, 8, .nilFunc⟩,
  ⟨.other, 1, 8, .nilFunc⟩,
  ⟨(.slice t_api_Val), 1, 24, .slice none 0 0⟩,
  ⟨.other, 1, 8, .nilFunc⟩,
  ⟨(.slice t_string), 1, 24, .slice none 0 0⟩,
  ⟨.other, 1, 8, .nilFunc⟩,
  ⟨.other, 1, 8, .nilFunc⟩,
  ⟨.other, 1, 8, .nilFunc⟩,
  ⟨(.slice t_api_Ty), 1, 24, .slice none 0 0⟩,
  ⟨(.slice t_api_Ty), 1, 24, .slice none 0 0⟩,
  ⟨(.slice t_api_Step), 1, 24, .slice none 0 0⟩,
  ⟨(.slice t_api_Step), 1, 24, .slice none 0 0⟩,
  ⟨.other, 1, 8, .nilFunc⟩,
  ⟨.other, 1, 8, .nilFunc⟩,
  ⟨(.int .i64), 1, 8, .int .i64 0⟩,
  ⟨.other, 1, 0, .tuple ⟨[.slice none 0 0, .int .i64 0]⟩⟩,
  ⟨.other, 1, 8, .nilFunc⟩,
  ⟨.other, 1, 8, .nilFunc⟩,
  ⟨.other, 1, 8, .nilFunc⟩,
  ⟨.other, 1, 8, .nilFunc⟩,
  ⟨(.struct [(0, t_api_Type), (1, t_api_Path), (2, t_api_Atom), (9, t_api_Val)]), 10, 144, .agg ⟨[.slice none 0 0, .slice none 0 0, .int .i64 0, .int .i64 0, .int .i64 0, .string ⟨⟨[]⟩⟩, .string ⟨⟨[]⟩⟩, .bool false, .int .i64 0, .slice none 0 0]⟩⟩,
  ⟨(.struct [(0, t_api_Type), (1, t_api_Path), (2, t_api_Atom), (9, t_api_Val)]), 10, 144, .agg ⟨[.slice none 0 0, .slice none 0 0, .int .i64 0, .int .i64 0, .int .i64 0, .string ⟨⟨[]⟩⟩, .string ⟨⟨[]⟩⟩, .bool false, .int .i64 0, .slice none 0 0]⟩⟩,
  ⟨.other, 1, 0, .tuple ⟨[.slice none 0 0, .int .i64 0]⟩⟩,
  ⟨.other, 1, 8, .nilFunc⟩,
  ⟨.other, 1, 8, .nilFunc⟩,
  ⟨.other, 1, 8, .nilFunc⟩,
  ⟨(.struct [(0, t_int), (1, t_int), (2, t_string), (3, t_string), (4, t_int), (5, t_api_Node)]), 11, 120, .agg ⟨[.int .i64 0, .int .i64 0, .string ⟨⟨[]⟩⟩, .string ⟨⟨[]⟩⟩, .int .i64 0, .int .i64 0, .int .i64 0, .string ⟨⟨[]⟩⟩, .string ⟨⟨[]⟩⟩, .bool false, .int .i64 0]⟩⟩,
  ⟨(.struct [(0, t_int), (1, t_int), (2, t_string), (3, t_string), (4, t_int), (5, t_api_Node)]), 11, 120, .agg ⟨[.int .i64 0, .int .i64 0, .string ⟨⟨[]⟩⟩, .string ⟨⟨[]⟩⟩, .int .i64 0, .int .i64 0, .int .i64 0, .string ⟨⟨[]⟩⟩, .string ⟨⟨[]⟩⟩, .bool false, .int .i64 0]⟩⟩,
  ⟨(.slice t_int), 1, 24, .slice none 0 0⟩,
  ⟨.other, 1, 8, .nilFunc⟩,
  ⟨(.slice t_api_Type), 1, 24, .slice none 0 0⟩,
  ⟨.other, 1, 8, .nilFunc⟩,
  ⟨.other, 1, 8, .nilFunc⟩,
  ⟨.other, 1, 8, .nilFunc⟩,
  ⟨.other, 1, 8, .nilFunc⟩,
  ⟨.other, 1, 8, .nilFunc⟩,
  ⟨.other, 1, 8, .nilFunc⟩,
  ⟨.other, 1, 8, .nilFunc⟩,
  ⟨.other, 1, 8, .nilFunc⟩,
  ⟨.other, 1, 8, .nilFunc⟩,
  ⟨.other, 1, 8, .nilFunc⟩,
  ⟨.other, 1, 8, .nilFunc⟩,
  ⟨(.slice t_api_Edit), 1, 24, .slice none 0 0⟩,
  ⟨.other, 1, 8, .nilFunc⟩,
  ⟨.other, 1, 8, .nilFunc⟩,
  ⟨.other, 1, 8, .nilFunc⟩,
  ⟨.other, 1, 8, .nilFunc⟩,
  ⟨(.struct [(0, t_int), (1, t_api_Path), (2, t_api_Val)]), 3, 56, .agg ⟨[.int .i64 0, .slice none 0 0, .slice none 0 0]⟩⟩,
  ⟨(.struct [(0, t_int), (1, t_api_Path), (2, t_api_Val)]), 3, 56, .agg ⟨[.int .i64 0, .slice none 0 0, .slice none 0 0]⟩⟩,
  ⟨.other, 1, 8, .nilFunc⟩,
  ⟨(.struct [(0, t_bool), (1, t_string), (2, t_int)]), 3, 32, .agg ⟨[.bool false, .string ⟨⟨[]⟩⟩, .int .i64 0]⟩⟩,
  ⟨(.struct [(0, t_bool), (1, t_string), (2, t_int)]), 3, 32, .agg ⟨[.bool false, .string ⟨⟨[]⟩⟩, .int .i64 0]⟩⟩,
  ⟨.other, 1, 8, .nilFunc⟩,
  ⟨.other, 1, 8, .nilFunc⟩,
  ⟨.other, 1, 8, .nilFunc⟩,
  ⟨.other, 1, 0, .tuple ⟨[.agg ⟨[.int .i64 0, .int .i64 0, .string ⟨⟨[]⟩⟩, .string ⟨⟨[]⟩⟩, .bool false, .int .i64 0]⟩, .bool false]⟩⟩,
  ⟨.other, 1, 8, .nilFunc⟩,
  ⟨.other, 1, 8, .nilFunc⟩,
  ⟨.other, 1, 8, .nilFunc⟩,
  ⟨.other, 1, 8, .nilFunc⟩,
  ⟨.other, 1, 8, .nilFunc⟩,
  ⟨(.map t_int t_int), 1, 8, .map none⟩,
  ⟨.other, 1, 8, .nilFunc⟩,
  ⟨.other, 1, 8, .nilFunc⟩,
  ⟨.other, 1, 8, .nilFunc⟩,
  ⟨.other, 1, 8, .nilFunc⟩,
  ⟨.other, 1, 8, .nilFunc⟩,
  ⟨.other, 1, 8, .nilFunc⟩,
  ⟨.other, 1, 0, .tuple ⟨[.int .i64 0, .bool false]⟩⟩,
  ⟨.other, 1, 8, .nilFunc⟩,
  ⟨.other, 1, 8, .nilFunc⟩,
  ⟨.other, 1, 8, .nilFunc⟩,
  ⟨.other, 1, 8, .nilFunc⟩,
  ⟨.other, 1, 8, .nilFunc⟩,
  ⟨.other, 1, 8, .nilFunc⟩,
  ⟨.other, 1, 8, .nilFunc⟩,
  ⟨.other, 1, 8, .nilFunc⟩,
  ⟨.other, 1, 8, .nilFunc⟩,
  ⟨.other, 1, 8, .nilFunc⟩,
  ⟨.other, 1, 8, .nilFunc⟩,
  ⟨.other, 1, 0, .tuple ⟨[.slice none 0 0, .bool false]⟩⟩,
  ⟨.other, 1, 8, .nilFunc⟩,
  ⟨.other, 1, 8, .nilFunc⟩,
  ⟨.other, 1, 8, .nilFunc⟩,
  ⟨.other, 1, 8, .nilFunc⟩,
  ⟨.other, 1, 8, .nilFunc⟩,
  ⟨.other, 1, 8, .nilFunc⟩,
  ⟨.other, 1, 8, .nilFunc⟩,
  ⟨.other, 1, 8, .nilFunc⟩,
  ⟨.other, 1, 8, .nilFunc⟩,
  ⟨.other, 1, 8, .nilFunc⟩,
  ⟨.other, 1, 8, .nilFunc⟩,
  ⟨(.slice t_bool), 1, 24, .slice none 0 0⟩,
  ⟨.other, 1, 8, .nilFunc⟩,
  ⟨.other, 1, 8, .nilFunc⟩,
  ⟨.other, 1, 8, .nilFunc⟩,
  ⟨.other, 1, 8, .nilFunc⟩,
  ⟨.other, 1, 8, .nilFunc⟩,
  ⟨.other, 1, 8, .nilFunc⟩,
  ⟨.other, 1, 8, .nilFunc⟩,
  ⟨.other, 1, 8, .nilFunc⟩,
  ⟨.other, 1, 8, .nilFunc⟩,
  ⟨.other, 1, 0, .tuple ⟨[.agg ⟨[.int .i64 0, .int .i64 0, .string ⟨⟨[]⟩⟩, .string ⟨⟨[]⟩⟩, .bool false, .int .i64 0]⟩, .int .i64 0]⟩⟩,
  ⟨.other, 1, 8, .nilFunc⟩,
  ⟨.other, 1, 8, .nilFunc⟩,
  ⟨.other, 1, 8, .nilFunc⟩,
  ⟨.other, 1, 8, .nilFunc⟩,
  ⟨.other, 1, 8, .nilFunc⟩,
  ⟨.other, 1, 8, .nilFunc⟩,
  ⟨.other, 1, 8, .nilFunc⟩,
  ⟨.other, 1, 8, .nilFunc⟩,
  ⟨.other, 1, 8, .nilFunc⟩,
  ⟨.other, 1, 8, .nilFunc⟩,
  ⟨.other, 1, 8, .nilFunc⟩,
  ⟨.other, 1, 8, .nilFunc⟩,
  ⟨.other, 1, 8, .nilFunc⟩,
  ⟨.other, 1, 8, .nilFunc⟩,
  ⟨(.map t_string t_api_Val), 1, 8, .map none⟩,
  ⟨.other, 1, 8, .nilFunc⟩,
  ⟨.other, 1, 8, .nilFunc⟩,
  ⟨.other, 1, 8, .nilFunc⟩,
  ⟨.other, 1, 8, .nilFunc⟩,
  ⟨(.struct [(0, t_int), (1, t_int), (2, t_bool), (3, t_string)]), 4, 40, .agg ⟨[.int .i64 0, .int .i64 0, .bool false, .string ⟨⟨[]⟩⟩]⟩⟩,
  ⟨(.struct [(0, t_int), (1, t_int), (2, t_bool), (3, t_string)]), 4, 40, .agg ⟨[.int .i64 0, .int .i64 0, .bool false, .string ⟨⟨[]⟩⟩]⟩⟩,
  ⟨(.slice t_val_open), 1, 24, .slice none 0 0⟩,
  ⟨.other, 1, 8, .pointer none⟩,
  ⟨.other, 1, 8, .nilFunc⟩,
  ⟨.other, 1, 8, .nilFunc⟩,
  ⟨.other, 1, 8, .nilFunc⟩,
  ⟨.other, 1, 8, .nilFunc⟩,
  ⟨.other, 1, 8, .nilFunc⟩,
  ⟨.other, 1, 8, .nilFunc⟩,
  ⟨(.int .u64), 1, 8, .int .u64 0⟩,
  ⟨.other, 1, 8, .nilFunc⟩,
  ⟨.other, 1, 8, .nilFunc⟩,
  ⟨.other, 1, 8, .nilFunc⟩,
  ⟨.other, 1, 8, .nilFunc⟩,
  ⟨.other, 1, 8, .nilFunc⟩,
  ⟨.other, 1, 8, .nilFunc⟩,
  ⟨.other, 1, 8, .nilFunc⟩,
  ⟨.other, 1, 8, .nilFunc⟩,
  ⟨.other, 1, 8, .nilFunc⟩,
  ⟨.other, 1, 8, .nilFunc⟩,
  ⟨.other, 1, 0, .tuple ⟨[.slice none 0 0, .int .i64 0, .int .i64 0]⟩⟩,
  ⟨.other, 1, 8, .nilFunc⟩,
  ⟨.other, 1, 8, .nilFunc⟩,
  ⟨.other, 1, 8, .nilFunc⟩,
  ⟨.other, 1, 8, .nilFunc⟩,
  ⟨.other, 1, 8, .nilFunc⟩,
  ⟨(.map t_string t_api_Type), 1, 8, .map none⟩,
  ⟨.other, 1, 8, .nilFunc⟩,
  ⟨.other, 1, 0, .tuple ⟨[.slice none 0 0, .bool false]⟩⟩,
  ⟨.other, 1, 8, .nilFunc⟩,
  ⟨.other, 1, 8, .nilFunc⟩,
  ⟨.other, 1, 8, .nilFunc⟩,
  ⟨.other, 1, 8, .nilFunc⟩,
  ⟨.other, 1, 8, .nilFunc⟩,
  ⟨.other, 1, 0, .tuple ⟨[.int .u64 0, .int .u64 0]⟩⟩,
  ⟨.other, 1, 8, .nilFunc⟩,
  ⟨.other, 1, 8, .pointer none⟩,
  ⟨(.slice t_uint8), 1, 24, .slice none 0 0⟩,
  ⟨(.struct [(0, t_P_strings_Builder), (1, t_L_uint8)]), 2, 32, .agg ⟨[.pointer none, .slice none 0 0]⟩⟩,
  ⟨(.struct [(0, t_P_strings_Builder), (1, t_L_uint8)]), 2, 32, .agg ⟨[.pointer none, .slice none 0 0]⟩⟩,
  ⟨.other, 1, 8, .nilFunc⟩,
  ⟨.other, 1, 16, .nilIface⟩,
  ⟨.other, 1, 16, .nilIface⟩,
  ⟨.other, 1, 0, .tuple ⟨[.int .i64 0, .nilIface]⟩⟩,
  ⟨.other, 1, 8, .nilFunc⟩,
  ⟨.other, 1, 8, .nilFunc⟩,
  ⟨.other, 1, 8, .nilFunc⟩,
  ⟨.other, 1, 8, .nilFunc⟩,
  ⟨.other, 1, 8, .nilFunc⟩,
  ⟨.other, 1, 8, .nilFunc⟩,
  ⟨(.array 256 t_uint8), 256, 256, .agg ⟨[.int .u8 0, .int .u8 0, .int .u8 0, .int .u8 0, .int .u8 0, .int .u8 0, .int .u8 0, .int .u8 0, .int .u8 0, .int .u8 0, .int .u8 0, .int .u8 0, .int .u8 0, .int .u8 0, .int .u8 0, .int .u8 0, .int .u8 0, .int .u8 0, .int .u8 0, .int .u8 0, .int .u8 0, .int .u8 0, .int .u8 0, .int .u8 0, .int .u8 0, .int .u8 0, .int .u8 0, .int .u8 0, .int .u8 0, .int .u8 0, .int .u8 0, .int .u8 0, .int .u8 0, .int .u8 0, .int .u8 0, .int .u8 0, .int .u8 0, .int .u8 0, .int .u8 0, .int .u8 0, .int .u8 0, .int .u8 0, .int .u8 0, .int .u8 0, .int .u8 0, .int .u8 0, .int .u8 0, .int .u8 0, .int .u8 0, .int .u8 0, .int .u8 0, .int .u8 0, .int .u8 0, .int .u8 0, .int .u8 0, .int .u8 0, .int .u8 0, .int .u8 0, .int .u8 0, .int .u8 0, .int .u8 0, .int .u8 0, .int .u8 0, .int .u8 0, .int .u8 0, .int .u8 0, .int .u8 0, .int .u8 0, .int .u8 0, .int .u8 0, .int .u8 0, .int .u8 0, .int .u8 0, .int .u8 0, .int .u8 0, .int .u8 0, .int .u8 0, .int .u8 0, .int .u8 0, .int .u8 0, .int .u8 0, .int .u8 0, .int .u8 0, .int .u8 0, .int .u8 0, .int .u8 0, .int .u8 0, .int .u8 0, .int .u8 0, .int .u8 0, .int .u8 0, .int .u8 0, .int .u8 0, .int .u8 0, .int .u8 0, .int .u8 0, .int .u8 0, .int .u8 0, .int .u8 0, .int .u8 0, .int .u8 0, .int .u8 0, .int .u8 0, .int .u8 0, .int .u8 0, .int .u8 0, .int .u8 0, .int .u8 0, .int .u8 0, .int .u8 0, .int .u8 0, .int .u8 0, .int .u8 0, .int .u8 0, .int .u8 0, .int .u8 0, .int .u8 0, .int .u8 0, .int .u8 0, .int .u8 0, .int .u8 0, .int .u8 0, .int .u8 0, .int .u8 0, .int .u8 0, .int .u8 0, .int .u8 0, .int .u8 0, .int .u8 0, .int .u8 0, .int .u8 0, .int .u8 0, .int .u8 0, .int .u8 0, .int .u8 0, .int .u8 0, .int .u8 0, .int .u8 0, .int .u8 0, .int .u8 0, .int .u8 0, .int .u8 0, .int .u8 0, .int .u8 0, .int .u8 0, .int .u8 0, .int .u8 0, .int .u8 0, .int .u8 0, .int .u8 0, .int .u8 0, .int .u8 0, .int .u8 0, .int .u8 0, .int .u8 0, .int .u8 0, .int .u8 0, .int .u8 0, .int .u8 0, .int .u8 0, .int .u8 0, .int .u8 0, .int .u8 0, .int .u8 0, .int .u8 0, .int .u8 0, .int .u8 0, .int .u8 0, .int .u8 0, .int .u8 0, .int .u8 0, .int .u8 0, .int .u8 0, .int .u8 0, .int .u8 0, .int .u8 0, .int .u8 0, .int .u8 0, .int .u8 0, .int .u8 0, .int .u8 0, .int .u8 0, .int .u8 0, .int .u8 0, .int .u8 0, .int .u8 0, .int .u8 0, .int .u8 0, .int .u8 0, .int .u8 0, .int .u8 0, .int .u8 0, .int .u8 0, .int .u8 0, .int .u8 0, .int .u8 0, .int .u8 0, .int .u8 0, .int .u8 0, .int .u8 0, .int .u8 0, .int .u8 0, .int .u8 0, .int .u8 0, .int .u8 0, .int .u8 0, .int .u8 0, .int .u8 0, .int .u8 0, .int .u8 0, .int .u8 0, .int .u8 0, .int .u8 0, .int .u8 0, .int .u8 0, .int .u8 0, .int .u8 0, .int .u8 0, .int .u8 0, .int .u8 0, .int .u8 0, .int .u8 0, .int .u8 0, .int .u8 0, .int .u8 0, .int .u8 0, .int .u8 0, .int .u8 0, .int .u8 0, .int .u8 0, .int .u8 0, .int .u8 0, .int .u8 0, .int .u8 0, .int .u8 0, .int .u8 0, .int .u8 0, .int .u8 0, .int .u8 0, .int .u8 0, .int .u8 0, .int .u8 0, .int .u8 0, .int .u8 0, .int .u8 0, .int .u8 0, .int .u8 0, .int .u8 0, .int .u8 0, .int .u8 0, .int .u8 0, .int .u8 0, .int .u8 0, .int .u8 0, .int .u8 0, .int .u8 0]⟩⟩,
  ⟨(.struct [(0, t_uint8), (1, t_uint8)]), 2, 2, .agg ⟨[.int .u8 0, .int .u8 0]⟩⟩,
  ⟨(.struct [(0, t_uint8), (1, t_uint8)]), 2, 2, .agg ⟨[.int .u8 0, .int .u8 0]⟩⟩,
  ⟨(.array 16 t_utf8_acceptRange), 32, 32, .agg ⟨[.int .u8 0, .int .u8 0, .int .u8 0, .int .u8 0, .int .u8 0, .int .u8 0, .int .u8 0, .int .u8 0, .int .u8 0, .int .u8 0, .int .u8 0, .int .u8 0, .int .u8 0, .int .u8 0, .int .u8 0, .int .u8 0, .int .u8 0, .int .u8 0, .int .u8 0, .int .u8 0, .int .u8 0, .int .u8 0, .int .u8 0, .int .u8 0, .int .u8 0, .int .u8 0, .int .u8 0, .int .u8 0, .int .u8 0, .int .u8 0, .int .u8 0, .int .u8 0]⟩⟩,
  ⟨.other, 1, 8, .nilFunc⟩,
  ⟨.other, 1, 8, .nilFunc⟩,
  ⟨.other, 1, 0, .tuple ⟨[.slice none 0 0, .int .i64 0]⟩⟩,
  ⟨.other, 1, 8, .nilFunc⟩,
  ⟨.other, 1, 8, .nilFunc⟩,
  ⟨.other, 1, 8, .nilFunc⟩,
  ⟨.other, 1, 8, .nilFunc⟩,
  ⟨.other, 1, 8, .nilFunc⟩,
  ⟨.other, 1, 8, .nilFunc⟩,
  ⟨.other, 1, 8, .nilFunc⟩,
  ⟨.other, 1, 8, .nilFunc⟩,
  ⟨.other, 1, 8, .nilFunc⟩,
  ⟨.other, 1, 8, .nilFunc⟩,
  ⟨(.array 256 t_bool), 256, 256, .agg ⟨[.bool false, .bool false, .bool false, .bool false, .bool false, .bool false, .bool false, .bool false, .bool false, .bool false, .bool false, .bool false, .bool false, .bool false, .bool false, .bool false, .bool false, .bool false, .bool false, .bool false, .bool false, .bool false, .bool false, .bool false, .bool false, .bool false, .bool false, .bool false, .bool false, .bool false, .bool false, .bool false, .bool false, .bool false, .bool false, .bool false, .bool false, .bool false, .bool false, .bool false, .bool false, .bool false, .bool false, .bool false, .bool false, .bool false, .bool false, .bool false, .bool false, .bool false, .bool false, .bool false, .bool false, .bool false, .bool false, .bool false, .bool false, .bool false, .bool false, .bool false, .bool false, .bool false, .bool false, .bool false, .bool false, .bool false, .bool false, .bool false, .bool false, .bool false, .bool false, .bool false, .bool false, .bool false, .bool false, .bool false, .bool false, .bool false, .bool false, .bool false, .bool false, .bool false, .bool false, .bool false, .bool false, .bool false, .bool false, .bool false, .bool false, .bool false, .bool false, .bool false, .bool false, .bool false, .bool false, .bool false, .bool false, .bool false, .bool false, .bool false, .bool false, .bool false, .bool false, .bool false, .bool false, .bool false, .bool false, .bool false, .bool false, .bool false, .bool false, .bool false, .bool false, .bool false, .bool false, .bool false, .bool false, .bool false, .bool false, .bool false, .bool false, .bool false, .bool false, .bool false, .bool false, .bool false, .bool false, .bool false, .bool false, .bool false, .bool false, .bool false, .bool false, .bool false, .bool false, .bool false, .bool false, .bool false, .bool false, .bool false, .bool false, .bool false, .bool false, .bool false, .bool false, .bool false, .bool false, .bool false, .bool false, .bool false, .bool false, .bool false, .bool false, .bool false, .bool false, .bool false, .bool false, .bool false, .bool false, .bool false, .bool false, .bool false, .bool false, .bool false, .bool false, .bool false, .bool false, .bool false, .bool false, .bool false, .bool false, .bool false, .bool false, .bool false, .bool false, .bool false, .bool false, .bool false, .bool false, .bool false, .bool false, .bool false, .bool false, .bool false, .bool false, .bool false, .bool false, .bool false, .bool false, .bool false, .bool false, .bool false, .bool false, .bool false, .bool false, .bool false, .bool false, .bool false, .bool false, .bool false, .bool false, .bool false, .bool false, .bool false, .bool false, .bool false, .bool false, .bool false, .bool false, .bool false, .bool false, .bool false, .bool false, .bool false, .bool false, .bool false, .bool false, .bool false, .bool false, .bool false, .bool false, .bool false, .bool false, .bool false, .bool false, .bool false, .bool false, .bool false, .bool false, .bool false, .bool false, .bool false, .bool false, .bool false, .bool false, .bool false, .bool false, .bool false, .bool false, .bool false, .bool false, .bool false, .bool false, .bool false, .bool false, .bool false, .bool false, .bool false, .bool false, .bool false, .bool false, .bool false, .bool false, .bool false, .bool false, .bool false]⟩⟩,
  ⟨(.array 256 t_bool), 256, 256, .agg ⟨[.bool false, .bool false, .bool false, .bool false, .bool false, .bool false, .bool false, .bool false, .bool false, .bool false, .bool false, .bool false, .bool false, .bool false, .bool false, .bool false, .bool false, .bool false, .bool false, .bool false, .bool false, .bool false, .bool false, .bool false, .bool false, .bool false, .bool false, .bool false, .bool false, .bool false, .bool false, .bool false, .bool false, .bool false, .bool false, .bool false, .bool false, .bool false, .bool false, .bool false, .bool false, .bool false, .bool false, .bool false, .bool false, .bool false, .bool false, .bool false, .bool false, .bool false, .bool false, .bool false, .bool false, .bool false, .bool false, .bool false, .bool false, .bool false, .bool false, .bool false, .bool false, .bool false, .bool false, .bool false, .bool false, .bool false, .bool false, .bool false, .bool false, .bool false, .bool false, .bool false, .bool false, .bool false, .bool false, .bool false, .bool false, .bool false, .bool false, .bool false, .bool false, .bool false, .bool false, .bool false, .bool false, .bool false, .bool false, .bool false, .bool false, .bool false, .bool false, .bool false, .bool false, .bool false, .bool false, .bool false, .bool false, .bool false, .bool false, .bool false, .bool false, .bool false, .bool false, .bool false, .bool false, .bool false, .bool false, .bool false, .bool false, .bool false, .bool false, .bool false, .bool false, .bool false, .bool false, .bool false, .bool false, .bool false, .bool false, .bool false, .bool false, .bool false, .bool false, .bool false, .bool false, .bool false, .bool false, .bool false, .bool false, .bool false, .bool false, .bool false, .bool false, .bool false, .bool false, .bool false, .bool false, .bool false, .bool false, .bool false, .bool false, .bool false, .bool false, .bool false, .bool false, .bool false, .bool false, .bool false, .bool false, .bool false, .bool false, .bool false, .bool false, .bool false, .bool false, .bool false, .bool false, .bool false, .bool false, .bool false, .bool false, .bool false, .bool false, .bool false, .bool false, .bool false, .bool false, .bool false, .bool false, .bool false, .bool false, .bool false, .bool false, .bool false, .bool false, .bool false, .bool false, .bool false, .bool false, .bool false, .bool false, .bool false, .bool false, .bool false, .bool false, .bool false, .bool false, .bool false, .bool false, .bool false, .bool false, .bool false, .bool false, .bool false, .bool false, .bool false, .bool false, .bool false, .bool false, .bool false, .bool false, .bool false, .bool false, .bool false, .bool false, .bool false, .bool false, .bool false, .bool false, .bool false, .bool false, .bool false, .bool false, .bool false, .bool false, .bool false, .bool false, .bool false, .bool false, .bool false, .bool false, .bool false, .bool false, .bool false, .bool false, .bool false, .bool false, .bool false, .bool false, .bool false, .bool false, .bool false, .bool false, .bool false, .bool false, .bool false, .bool false, .bool false, .bool false, .bool false, .bool false, .bool false, .bool false, .bool false, .bool false, .bool false, .bool false, .bool false, .bool false, .bool false, .bool false, .bool false, .bool false, .bool false, .bool false, .bool false]⟩⟩,
  ⟨.other, 1, 0, .tuple ⟨[.agg ⟨[.bool false, .bool false, .bool false, .bool false, .bool false, .bool false, .bool false, .bool false, .bool false, .bool false, .bool false, .bool false, .bool false, .bool false, .bool false, .bool false, .bool false, .bool false, .bool false, .bool false, .bool false, .bool false, .bool false, .bool false, .bool false, .bool false, .bool false, .bool false, .bool false, .bool false, .bool false, .bool false, .bool false, .bool false, .bool false, .bool false, .bool false, .bool false, .bool false, .bool false, .bool false, .bool false, .bool false, .bool false, .bool false, .bool false, .bool false, .bool false, .bool false, .bool false, .bool false, .bool false, .bool false, .bool false, .bool false, .bool false, .bool false, .bool false, .bool false, .bool false, .bool false, .bool false, .bool false, .bool false, .bool false, .bool false, .bool false, .bool false, .bool false, .bool false, .bool false, .bool false, .bool false, .bool false, .bool false, .bool false, .bool false, .bool false, .bool false, .bool false, .bool false, .bool false, .bool false, .bool false, .bool false, .bool false, .bool false, .bool false, .bool false, .bool false, .bool false, .bool false, .bool false, .bool false, .bool false, .bool false, .bool false, .bool false, .bool false, .bool false, .bool false, .bool false, .bool false, .bool false, .bool false, .bool false, .bool false, .bool false, .bool false, .bool false, .bool false, .bool false, .bool false, .bool false, .bool false, .bool false, .bool false, .bool false, .bool false, .bool false, .bool false, .bool false, .bool false, .bool false, .bool false, .bool false, .bool false, .bool false, .bool false, .bool false, .bool false, .bool false, .bool false, .bool false, .bool false, .bool false, .bool false, .bool false, .bool false, .bool false, .bool false, .bool false, .bool false, .bool false, .bool false, .bool false, .bool false, .bool false, .bool false, .bool false, .bool false, .bool false, .bool false, .bool false, .bool false, .bool false, .bool false, .bool false, .bool false, .bool false, .bool false, .bool false, .bool false, .bool false, .bool false, .bool false, .bool false, .bool false, .bool false, .bool false, .bool false, .bool false, .bool false, .bool false, .bool false, .bool false, .bool false, .bool false, .bool false, .bool false, .bool false, .bool false, .bool false, .bool false, .bool false, .bool false, .bool false, .bool false, .bool false, .bool false, .bool false, .bool false, .bool false, .bool false, .bool false, .bool false, .bool false, .bool false, .bool false, .bool false, .bool false, .bool false, .bool false, .bool false, .bool false, .bool false, .bool false, .bool false, .bool false, .bool false, .bool false, .bool false, .bool false, .bool false, .bool false, .bool false, .bool false, .bool false, .bool false, .bool false, .bool false, .bool false, .bool false, .bool false, .bool false, .bool false, .bool false, .bool false, .bool false, .bool false, .bool false, .bool false, .bool false, .bool false, .bool false, .bool false, .bool false, .bool false, .bool false, .bool false, .bool false, .bool false, .bool false, .bool false, .bool false, .bool false, .bool false, .bool false, .bool false, .bool false, .bool false, .bool false, .bool false, .bool false, .bool false, .bool false]⟩, .bool false]⟩⟩,
  ⟨.other, 1, 8, .nilFunc⟩,
  ⟨.other, 1, 8, .nilFunc⟩,
  ⟨.other, 1, 8, .pointer none⟩,
  ⟨(.int .u32), 1, 4, .int .u32 0⟩,
  ⟨.other, 1, 0, .tuple ⟨[.int .u32 0, .int .u32 0]⟩⟩,
  ⟨.other, 1, 8, .nilFunc⟩,
  ⟨(.int .u64), 1, 8, .int .u64 0⟩,
  ⟨.other, 1, 0, .tuple ⟨[.int .u64 0, .int .u64 0]⟩⟩,
  ⟨.other, 1, 8, .nilFunc⟩,
  ⟨.other, 1, 8, .pointer none⟩,
  ⟨.other, 1, 8, .nilFunc⟩,
  ⟨.other, 1, 8, .nilFunc⟩,
  ⟨.other, 1, 8, .nilFunc⟩,
  ⟨.other, 1, 8, .nilFunc⟩,
  ⟨.other, 1, 8, .nilFunc⟩,
  ⟨.other, 1, 0, .tuple ⟨[.agg ⟨[.bool false, .string ⟨⟨[]⟩⟩, .int .i64 0]⟩, .int .i64 0]⟩⟩,
  ⟨.other, 1, 8, .nilFunc⟩,
  ⟨.other, 1, 8, .nilFunc⟩,
  ⟨.other, 1, 8, .nilFunc⟩,
  ⟨.other, 1, 8, .nilFunc⟩,
  ⟨.other, 1, 8, .nilFunc⟩,
  ⟨.other, 1, 8, .nilFunc⟩,
  ⟨.other, 1, 8, .nilFunc⟩,
  ⟨.other, 1, 8, .nilFunc⟩,
  ⟨.other, 1, 8, .nilFunc⟩,
  ⟨.other, 1, 8, .nilFunc⟩,
  ⟨.other, 1, 8, .nilFunc⟩,
  ⟨(.slice t_L_int), 1, 24, .slice none 0 0⟩,
  ⟨.other, 1, 8, .nilFunc⟩,
  ⟨.other, 1, 8, .nilFunc⟩,
  ⟨.other, 1, 8, .nilFunc⟩,
  ⟨.other, 1, 8, .nilFunc⟩,
  ⟨.other, 1, 0, .tuple ⟨[.int .i32 0, .int .i64 0]⟩⟩,
  ⟨.other, 1, 8, .nilFunc⟩,
  ⟨.other, 1, 8, .nilFunc⟩,
  ⟨.other, 1, 8, .pointer none⟩,
  ⟨.other, 1, 8, .nilFunc⟩,
  ⟨.other, 1, 8, .nilFunc⟩,
  ⟨.other, 1, 8, .nilFunc⟩,
  ⟨(.int .i64), 1, 8, .int .i64 0⟩,
  ⟨.other, 1, 0, .tuple ⟨[.int .i64 0, .int .i64 0]⟩⟩,
  ⟨.other, 1, 8, .nilFunc⟩,
  ⟨.other, 1, 8, .nilFunc⟩,
  ⟨.other, 1, 8, .nilFunc⟩,
  ⟨.other, 1, 8, .nilFunc⟩,
  ⟨.other, 1, 8, .nilFunc⟩,
  ⟨.other, 1, 8, .nilFunc⟩,
  ⟨.other, 1, 0, .tuple ⟨[.string ⟨⟨[]⟩⟩, .int .i64 0, .int .i64 0]⟩⟩,
  ⟨.other, 1, 8, .nilFunc⟩,
  ⟨.other, 1, 0, .tuple ⟨[.int .i64 0, .int .i64 0]⟩⟩,
  ⟨.other, 1, 8, .nilFunc⟩,
  ⟨.other, 1, 8, .nilFunc⟩,
  ⟨.other, 1, 8, .nilFunc⟩,
  ⟨.other, 1, 8, .nilFunc⟩,
  ⟨.other, 1, 8, .nilFunc⟩,
  ⟨.other, 1, 8, .nilFunc⟩,
  ⟨.other, 1, 8, .nilFunc⟩,
  ⟨.other, 1, 8, .nilFunc⟩,
  ⟨.other, 1, 8, .nilFunc⟩,
  ⟨(.int .u64), 1, 8, .int .u64 0⟩,
  ⟨.other, 1, 8, .nilFunc⟩,
  ⟨.other, 1, 8, .nilFunc⟩,
  ⟨.other, 1, 8, .nilFunc⟩,
  ⟨.other, 1, 8, .pointer none⟩,
  ⟨.other, 1, 8, .nilFunc⟩,
  ⟨.other, 1, 0, .tuple ⟨[.string ⟨⟨[]⟩⟩, .int .i64 0]⟩⟩,
  ⟨.other, 1, 8, .nilFunc⟩,
  ⟨.other, 1, 8, .nilFunc⟩,
  ⟨.other, 1, 8, .nilFunc⟩,
  ⟨.other, 1, 8, .pointer none⟩,
  ⟨.other, 1, 8, .nilFunc⟩,
  ⟨.other, 1, 8, .nilFunc⟩,
  ⟨(.struct [(0, t_P_abi_Type), (1, t_P_abi_Type), (2, t_P_abi_Type), (3, t_string)]), 4, 40, .agg ⟨[.pointer none, .pointer none, .pointer none, .string ⟨⟨[]⟩⟩]⟩⟩,
  ⟨(.struct [(0, t_P_abi_Type), (1, t_P_abi_Type), (2, t_P_abi_Type), (3, t_string)]), 4, 40, .agg ⟨[.pointer none, .pointer none, .pointer none, .string ⟨⟨[]⟩⟩]⟩⟩,
  ⟨(.array 0 t_P_runtime_PanicNilError), 0, 0, .agg ⟨[]⟩⟩,
  ⟨(.struct [(0, t__0_P_runtime_PanicNilError)]), 0, 0, .agg ⟨[]⟩⟩,
  ⟨(.struct [(0, t__0_P_runtime_PanicNilError)]), 0, 0, .agg ⟨[]⟩⟩,
  ⟨(.int .u8), 1, 1, .int .u8 0⟩,
  ⟨(.int .u8), 1, 1, .int .u8 0⟩,
  ⟨.other, 1, 8, .nilFunc⟩,
  ⟨(.int .i32), 1, 4, .int .i32 0⟩,
  ⟨(.int .i32), 1, 4, .int .i32 0⟩,
  ⟨(.struct [(0, t_uintptr), (1, t_uintptr), (2, t_uint32), (3, t_abi_TFlag), (4, t_uint8), (5, t_uint8), (6, t_abi_Kind), (7, t_func_unsafe_Pointer__unsafe_Pointer__bool), (8, t_P_uint8), (9, t_abi_NameOff), (10, t_abi_TypeOff)]), 11, 48, .agg ⟨[.int .u64 0, .int .u64 0, .int .u32 0, .int .u8 0, .int .u8 0, .int .u8 0, .int .u8 0, .nilFunc, .pointer none, .int .i32 0, .int .i32 0]⟩⟩,
  ⟨(.struct [(0, t_uintptr), (1, t_uintptr), (2, t_uint32), (3, t_abi_TFlag), (4, t_uint8), (5, t_uint8), (6, t_abi_Kind), (7, t_func_unsafe_Pointer__unsafe_Pointer__bool), (8, t_P_uint8), (9, t_abi_NameOff), (10, t_abi_TypeOff)]), 11, 48, .agg ⟨[.int .u64 0, .int .u64 0, .int .u32 0, .int .u8 0, .int .u8 0, .int .u8 0, .int .u8 0, .nilFunc, .pointer none, .int .i32 0, .int .i32 0]⟩⟩]
def D (t : TypeId) : TInfo := tabD.getD t TInfo.off
theorem tok_0 : TOk Tryz.prog 0 (tabD.getD 0 TInfo.off) := q08 (by kernel_rfl) (by kernel_rfl) (by kernel_rfl)
theorem tok_1 : TOk Tryz.prog 1 (tabD.getD 1 TInfo.off) := q08 (by kernel_rfl) (by kernel_rfl) (by kernel_rfl)
theorem tok_2 : TOk Tryz.prog 2 (tabD.getD 2 TInfo.off) := q08 (by kernel_rfl) (by kernel_rfl) (by kernel_rfl)
theorem tok_3 : TOk Tryz.prog 3 (tabD.getD 3 TInfo.off) := q08 (by kernel_rfl) (by kernel_rfl) (by kernel_rfl)
theorem tok_4 : TOk Tryz.prog 4 (tabD.getD 4 TInfo.off) := q08 (by kernel_rfl) (by kernel_rfl) (by kernel_rfl)
theorem tok_5 : TOk Tryz.prog 5 (tabD.getD 5 TInfo.off) := q08 (by kernel_rfl) (by kernel_rfl) (by kernel_rfl)
theorem tok_6 : TOk Tryz.prog 6 (tabD.getD 6 TInfo.off) := q08 (by kernel_rfl) (by kernel_rfl) (by kernel_rfl)
theorem tok_7 : TOk Tryz.prog 7 (tabD.getD 7 TInfo.off) := q08 (by kernel_rfl) (by kernel_rfl) (by kernel_rfl)
theorem tok_8 : TOk Tryz.prog 8 (tabD.getD 8 TInfo.off) := q08 (by kernel_rfl) (by kernel_rfl) (by kernel_rfl)
theorem tok_9 : TOk Tryz.prog 9 (tabD.getD 9 TInfo.off) := q08 (by kernel_rfl) (by kernel_rfl) (by kernel_rfl)
theorem qw6 : TOk Tryz.prog 10 (tabD.getD 10 TInfo.off) := q08 (by kernel_rfl) (by kernel_rfl) (by kernel_rfl)
theorem qw7 : TOk Tryz.prog 11 (tabD.getD 11 TInfo.off) := q08 (by kernel_rfl) (by kernel_rfl) (by kernel_rfl)
theorem qw8 : TOk Tryz.prog 12 (tabD.getD 12 TInfo.off) := q08 (by kernel_rfl) (by kernel_rfl) (by kernel_rfl)
theorem qw9 : TOk Tryz.prog 13 (tabD.getD 13 TInfo.off) := q08 (by kernel_rfl) (by kernel_rfl) (by kernel_rfl)
theorem qwa : TOk Tryz.prog 14 (tabD.getD 14 TInfo.off) := q08 (by kernel_rfl) (by kernel_rfl) (by kernel_rfl)
theorem qwb : TOk Tryz.prog 15 (tabD.getD 15 TInfo.off) := q08 (by kernel_rfl) (by kernel_rfl) (by kernel_rfl)
theorem qwc : TOk Tryz.prog 16 (tabD.getD 16 TInfo.off) := q08 (by kernel_rfl) (by kernel_rfl) (by kernel_rfl)
theorem qwd : TOk Tryz.prog 17 (tabD.getD 17 TInfo.off) := q08 (by kernel_rfl) (by kernel_rfl) (by kernel_rfl)
theorem qwe : TOk Tryz.prog 18 (tabD.getD 18 TInfo.off) := q08 (by kernel_rfl) (by kernel_rfl) (by kernel_rfl)
theorem qwf : TOk Tryz.prog 19 (tabD.getD 19 TInfo.off) := q08 (by kernel_rfl) (by kernel_rfl) (by kernel_rfl)
theorem qwg : TOk Tryz.prog 20 (tabD.getD 20 TInfo.off) := q08 (by kernel_rfl) (by kernel_rfl) (by kernel_rfl)
theorem qwh : TOk Tryz.prog 21 (tabD.getD 21 TInfo.off) := q08 (by kernel_rfl) (by kernel_rfl) (by kernel_rfl)
theorem qwi : TOk Tryz.prog 22 (tabD.getD 22 TInfo.off) := q08 (by kernel_rfl) (by kernel_rfl) (by kernel_rfl)
theorem qwj : TOk Tryz.prog 23 (tabD.getD 23 TInfo.off) := q08 (by kernel_rfl) (by kernel_rfl) (by kernel_rfl)
theorem qwk : TOk Tryz.prog 24 (tabD.getD 24 TInfo.off) := q08 (by kernel_rfl) (by kernel_rfl) (by kernel_rfl)
theorem qwl : TOk Tryz.prog 25 (tabD.getD 25 TInfo.off) := q08 (by kernel_rfl) (by kernel_rfl) (by kernel_rfl)
theorem qwm : TOk Tryz.prog 26 (tabD.getD 26 TInfo.off) := q08 (by kernel_rfl) (by kernel_rfl) (by kernel_rfl)
theorem qwn : TOk Tryz.prog 27 (tabD.getD 27 TInfo.off) := q08 (by kernel_rfl) (by kernel_rfl) (by kernel_rfl)
theorem qwo : TOk Tryz.prog 28 (tabD.getD 28 TInfo.off) := q08 (by kernel_rfl) (by kernel_rfl) (by kernel_rfl)
theorem qwp : TOk Tryz.prog 29 (tabD.getD 29 TInfo.off) := q08 (by kernel_rfl) (by kernel_rfl) (by kernel_rfl)
theorem qwq : TOk Tryz.prog 30 (tabD.getD 30 TInfo.off) := q08 (by kernel_rfl) (by kernel_rfl) (by kernel_rfl)
theorem qwr : TOk Tryz.prog 31 (tabD.getD 31 TInfo.off) := q08 (by kernel_rfl) (by kernel_rfl) (by kernel_rfl)
theorem qws : TOk Tryz.prog 32 (tabD.getD 32 TInfo.off) := q08 (by kernel_rfl) (by kernel_rfl) (by kernel_rfl)
theorem qwt : TOk Tryz.prog 33 (tabD.getD 33 TInfo.off) := q08 (by kernel_rfl) (by kernel_rfl) (by kernel_rfl)
theorem qwu : TOk Tryz.prog 34 (tabD.getD 34 TInfo.off) := q08 (by kernel_rfl) (by kernel_rfl) (by kernel_rfl)
theorem qwv : TOk Tryz.prog 35 (tabD.getD 35 TInfo.off) := q08 (by kernel_rfl) (by kernel_rfl) (by kernel_rfl)
theorem qww : TOk Tryz.prog 36 (tabD.getD 36 TInfo.off) := q08 (by kernel_rfl) (by kernel_rfl) (by kernel_rfl)
theorem qwx : TOk Tryz.prog 37 (tabD.getD 37 TInfo.off) := q08 (by kernel_rfl) (by kernel_rfl) (by kernel_rfl)
theorem qwy : TOk Tryz.prog 38 (tabD.getD 38 TInfo.off) := q08 (by kernel_rfl) (by kernel_rfl) (by kernel_rfl)
theorem qwz : TOk Tryz.prog 39 (tabD.getD 39 TInfo.off) := q08 (by kernel_rfl) (by kernel_rfl) (by kernel_rfl)
theorem qx0 : TOk Tryz.prog 40 (tabD.getD 40 TInfo.off) := q08 (by kernel_rfl) (by kernel_rfl) (by kernel_rfl)
theorem qx1 : TOk Tryz.prog 41 (tabD.getD 41 TInfo.off) := q08 (by kernel_rfl) (by kernel_rfl) (by kernel_rfl)
theorem qx2 : TOk Tryz.prog 42 (tabD.getD 42 TInfo.off) := q08 (by kernel_rfl) (by kernel_rfl) (by kernel_rfl)
theorem qx3 : TOk Tryz.prog 43 (tabD.getD 43 TInfo.off) := q08 (by kernel_rfl) (by kernel_rfl) (by kernel_rfl)
theorem qx4 : TOk Tryz.prog 44 (tabD.getD 44 TInfo.off) := q08 (by kernel_rfl) (by kernel_rfl) (by kernel_rfl)
theorem qx5 : TOk Tryz.prog 45 (tabD.getD 45 TInfo.off) := q08 (by kernel_rfl) (by kernel_rfl) (by kernel_rfl)
theorem qx6 : TOk Tryz.prog 46 (tabD.getD 46 TInfo.off) := q08 (by kernel_rfl) (by kernel_rfl) (by kernel_rfl)
theorem qx7 : TOk Tryz.prog 47 (tabD.getD 47 TInfo.off) := q08 (by kernel_rfl) (by kernel_rfl) (by kernel_rfl)
theorem qx8 : TOk Tryz.prog 48 (tabD.getD 48 TInfo.off) := q08 (by kernel_rfl) (by kernel_rfl) (by kernel_rfl)
theorem qx9 : TOk Tryz.prog 49 (tabD.getD 49 TInfo.off) := q08 (by kernel_rfl) (by kernel_rfl) (by kernel_rfl)
theorem qxa : TOk Tryz.prog 50 (tabD.getD 50 TInfo.off) := q08 (by kernel_rfl) (by kernel_rfl) (by kernel_rfl)
theorem qxb : TOk Tryz.prog 51 (tabD.getD 51 TInfo.off) := q08 (by kernel_rfl) (by kernel_rfl) (by kernel_rfl)
theorem qxc : TOk Tryz.prog 52 (tabD.getD 52 TInfo.off) := q08 (by kernel_rfl) (by kernel_rfl) (by kernel_rfl)
theorem qxd : TOk Tryz.prog 53 (tabD.getD 53 TInfo.off) := q08 (by kernel_rfl) (by kernel_rfl) (by kernel_rfl)
theorem qxe : TOk Tryz.prog 54 (tabD.getD 54 TInfo.off) := q08 (by kernel_rfl) (by kernel_rfl) (by kernel_rfl)
theorem qxf : TOk Tryz.prog 55 (tabD.getD 55 TInfo.off) := q08 (by kernel_rfl) (by kernel_rfl) (by kernel_rfl)
theorem qxg : TOk Tryz.prog 56 (tabD.getD 56 TInfo.off) := q08 (by kernel_rfl) (by kernel_rfl) (by kernel_rfl)
theorem qxh : TOk Tryz.prog 57 (tabD.getD 57 TInfo.off) := q08 (by kernel_rfl) (by kernel_rfl) (by kernel_rfl)
theorem qxi : TOk Tryz.prog 58 (tabD.getD 58 TInfo.off) := q08 (by kernel_rfl) (by kernel_rfl) (by kernel_rfl)
theorem qxj : TOk Tryz.prog 59 (tabD.getD 59 TInfo.off) := q08 (by kernel_rfl) (by kernel_rfl) (by kernel_rfl)
theorem qxk : TOk Tryz.prog 60 (tabD.getD 60 TInfo.off) := q08 (by kernel_rfl) (by kernel_rfl) (by kernel_rfl)
theorem qxl : TOk Tryz.prog 61 (tabD.getD 61 TInfo.off) := q08 (by kernel_rfl) (by kernel_rfl) (by kernel_rfl)
theorem qxm : TOk Tryz.prog 62 (tabD.getD 62 TInfo.off) := q08 (by kernel_rfl) (by kernel_rfl) (by kernel_rfl)
theorem qxn : TOk Tryz.prog 63 (tabD.getD 63 TInfo.off) := q08 (by kernel_rfl) (by kernel_rfl) (by kernel_rfl)
theorem qxo : TOk Tryz.prog 64 (tabD.getD 64 TInfo.off) := q08 (by kernel_rfl) (by kernel_rfl) (by kernel_rfl)
theorem qxp : TOk Tryz.prog 65 (tabD.getD 65 TInfo.off) := q08 (by kernel_rfl) (by kernel_rfl) (by kernel_rfl)
theorem qxq : TOk Tryz.prog 66 (tabD.getD 66 TInfo.off) := q08 (by kernel_rfl) (by kernel_rfl) (by kernel_rfl)
theorem qxr : TOk Tryz.prog 67 (tabD.getD 67 TInfo.off) := q08 (by kernel_rfl) (by kernel_rfl) (by kernel_rfl)
theorem qxs : TOk Tryz.prog 68 (tabD.getD 68 TInfo.off) := q08 (by kernel_rfl) (by kernel_rfl) (by kernel_rfl)
theorem qxt : TOk Tryz.prog 69 (tabD.getD 69 TInfo.off) := q08 (by kernel_rfl) (by kernel_rfl) (by kernel_rfl)
theorem qxu : TOk Tryz.prog 70 (tabD.getD 70 TInfo.off) := q08 (by kernel_rfl) (by kernel_rfl) (by kernel_rfl)
theorem qxv : TOk Tryz.prog 71 (tabD.getD 71 TInfo.off) := q08 (by kernel_rfl) (by kernel_rfl) (by kernel_rfl)
theorem qxw : TOk Tryz.prog 72 (tabD.getD 72 TInfo.off) := q08 (by kernel_rfl) (by kernel_rfl) (by kernel_rfl)
theorem qxx : TOk Tryz.prog 73 (tabD.getD 73 TInfo.off) := q08 (by kernel_rfl) (by kernel_rfl) (by kernel_rfl)
theorem qxy : TOk Tryz.prog 74 (tabD.getD 74 TInfo.off) := q08 (by kernel_rfl) (by kernel_rfl) (by kernel_rfl)
theorem qxz : TOk Tryz.prog 75 (tabD.getD 75 TInfo.off) := q08 (by kernel_rfl) (by kernel_rfl) (by kernel_rfl)
theorem qy0 : TOk Tryz.prog 76 (tabD.getD 76 TInfo.off) := q08 (by kernel_rfl) (by kernel_rfl) (by kernel_rfl)
theorem qy1 : TOk Tryz.prog 77 (tabD.getD 77 TInfo.off) := q08 (by kernel_rfl) (by kernel_rfl) (by kernel_rfl)
theorem qy2 : TOk Tryz.prog 78 (tabD.getD 78 TInfo.off) := q08 (by kernel_rfl) (by kernel_rfl) (by kernel_rfl)
theorem qy3 : TOk Tryz.prog 79 (tabD.getD 79 TInfo.off) := q08 (by kernel_rfl) (by kernel_rfl) (by kernel_rfl)
theorem qy4 : TOk Tryz.prog 80 (tabD.getD 80 TInfo.off) := q08 (by kernel_rfl) (by kernel_rfl) (by kernel_rfl)
theorem qy5 : TOk Tryz.prog 81 (tabD.getD 81 TInfo.off) := q08 (by kernel_rfl) (by kernel_rfl) (by kernel_rfl)
theorem qy6 : TOk Tryz.prog 82 (tabD.getD 82 TInfo.off) := q08 (by kernel_rfl) (by kernel_rfl) (by kernel_rfl)
theorem qy7 : TOk Tryz.prog 83 (tabD.getD 83 TInfo.off) := q08 (by kernel_rfl) (by kernel_rfl) (by kernel_rfl)
theorem qy8 : TOk Tryz.prog 84 (tabD.getD 84 TInfo.off) := q08 (by kernel_rfl) (by kernel_rfl) (by kernel_rfl)
theorem qy9 : TOk Tryz.prog 85 (tabD.getD 85 TInfo.off) := q08 (by kernel_rfl) (by kernel_rfl) (by kernel_rfl)
theorem qya : TOk Tryz.prog 86 (tabD.getD 86 TInfo.off) := q08 (by kernel_rfl) (by kernel_rfl) (by kernel_rfl)
theorem qyb : TOk Tryz.prog 87 (tabD.getD 87 TInfo.off) := q08 (by kernel_rfl) (by kernel_rfl) (by kernel_rfl)
theorem qyc : TOk Tryz.prog 88 (tabD.getD 88 TInfo.off) := q08 (by kernel_rfl) (by kernel_rfl) (by kernel_rfl)
theorem qyd : TOk Tryz.prog 89 (tabD.getD 89 TInfo.off) := q08 (by kernel_rfl) (by kernel_rfl) (by kernel_rfl)
theorem qye : TOk Tryz.prog 90 (tabD.getD 90 TInfo.off) := q08 (by kernel_rfl) (by kernel_rfl) (by kernel_rfl)
theorem qyf : TOk Tryz.prog 91 (tabD.getD 91 TInfo.off) := q08 (by kernel_rfl) (by kernel_rfl) (by kernel_rfl)
theorem qyg : TOk Tryz.prog 92 (tabD.getD 92 TInfo.off) := q08 (by kernel_rfl) (by kernel_rfl) (by kernel_rfl)
theorem qyh : TOk Tryz.prog 93 (tabD.getD 93 TInfo.off) := q08 (by kernel_rfl) (by kernel_rfl) (by kernel_rfl)
theorem qyi : TOk Tryz.prog 94 (tabD.getD 94 TInfo.off) := q08 (by kernel_rfl) (by kernel_rfl) (by kernel_rfl)
theorem qyj : TOk Tryz.prog 95 (tabD.getD 95 TInfo.off) := q08 (by kernel_rfl) (by kernel_rfl) (by kernel_rfl)
theorem qyk : TOk Tryz.prog 96 (tabD.getD 96 TInfo.off) := q08 (by kernel_rfl) (by kernel_rfl) (by kernel_rfl)
theorem qyl : TOk Tryz.prog 97 (tabD.getD 97 TInfo.off) := q08 (by kernel_rfl) (by kernel_rfl) (by kernel_rfl)
theorem qym : TOk Tryz.prog 98 (tabD.getD 98 TInfo.off) := q08 (by kernel_rfl) (by kernel_rfl) (by kernel_rfl)
theorem qyn : TOk Tryz.prog 99 (tabD.getD 99 TInfo.off) := q08 (by kernel_rfl) (by kernel_rfl) (by kernel_rfl)
theorem qpc : TOk Tryz.prog 100 (tabD.getD 100 TInfo.off) := q08 (by kernel_rfl) (by kernel_rfl) (by kernel_rfl)
theorem qpd : TOk Tryz.prog 101 (tabD.getD 101 TInfo.off) := q08 (by kernel_rfl) (by kernel_rfl) (by kernel_rfl)
theorem qpe : TOk Tryz.prog 102 (tabD.getD 102 TInfo.off) := q08 (by kernel_rfl) (by kernel_rfl) (by kernel_rfl)
theorem qpf : TOk Tryz.prog 103 (tabD.getD 103 TInfo.off) := q08 (by kernel_rfl) (by kernel_rfl) (by kernel_rfl)
theorem qpg : TOk Tryz.prog 104 (tabD.getD 104 TInfo.off) := q08 (by kernel_rfl) (by kernel_rfl) (by kernel_rfl)
theorem qph : TOk Tryz.prog 105 (tabD.getD 105 TInfo.off) := q08 (by kernel_rfl) (by kernel_rfl) (by kernel_rfl)
theorem qpi : TOk Tryz.prog 106 (tabD.getD 106 TInfo.off) := q08 (by kernel_rfl) (by kernel_rfl) (by kernel_rfl)
theorem qpj : TOk Tryz.prog 107 (tabD.getD 107 TInfo.off) := q08 (by kernel_rfl) (by kernel_rfl) (by kernel_rfl)
theorem qpk : TOk Tryz.prog 108 (tabD.getD 108 TInfo.off) := q08 (by kernel_rfl) (by kernel_rfl) (by kernel_rfl)
theorem qpl : TOk Tryz.prog 109 (tabD.getD 109 TInfo.off) := q08 (by kernel_rfl) (by kernel_rfl) (by kernel_rfl)
theorem qpm : TOk Tryz.prog 110 (tabD.getD 110 TInfo.off) := q08 (by kernel_rfl) (by kernel_rfl) (by kernel_rfl)
theorem qpn : TOk Tryz.prog 111 (tabD.getD 111 TInfo.off) := q08 (by kernel_rfl) (by kernel_rfl) (by kernel_rfl)
theorem qpo : TOk Tryz.prog 112 (tabD.getD 112 TInfo.off) := q08 (by kernel_rfl) (by kernel_rfl) (by kernel_rfl)
theorem qpp : TOk Tryz.prog 113 (tabD.getD 113 TInfo.off) := q08 (by kernel_rfl) (by kernel_rfl) (by kernel_rfl)
theorem qpq : TOk Tryz.prog 114 (tabD.getD 114 TInfo.off) := q08 (by kernel_rfl) (by kernel_rfl) (by kernel_rfl)
theorem qpr : TOk Tryz.prog 115 (tabD.getD 115 TInfo.off) := q08 (by kernel_rfl) (by kernel_rfl) (by kernel_rfl)
theorem qps : TOk Tryz.prog 116 (tabD.getD 116 TInfo.off) := q08 (by kernel_rfl) (by kernel_rfl) (by kernel_rfl)
theorem qpt : TOk Tryz.prog 117 (tabD.getD 117 TInfo.off) := q08 (by kernel_rfl) (by kernel_rfl) (by kernel_rfl)
theorem qpu : TOk Tryz.prog 118 (tabD.getD 118 TInfo.off) := q08 (by kernel_rfl) (by kernel_rfl) (by kernel_rfl)
theorem qpv : TOk Tryz.prog 119 (tabD.getD 119 TInfo.off) := q08 (by kernel_rfl) (by kernel_rfl) (by kernel_rfl)
theorem qpw : TOk Tryz.prog 120 (tabD.getD 120 TInfo.off) := q08 (by kernel_rfl) (by kernel_rfl) (by kernel_rfl)
theorem qpx : TOk Tryz.prog 121 (tabD.getD 121 TInfo.off) := q08 (by kernel_rfl) (by kernel_rfl) (by kernel_rfl)
theorem qpy : TOk Tryz.prog 122 (tabD.getD 122 TInfo.off) := q08 (by kernel_rfl) (by kernel_rfl) (by kernel_rfl)
theorem qpz : TOk Tryz.prog 123 (tabD.getD 123 TInfo.off) := q08 (by kernel_rfl) (by kernel_rfl) (by kernel_rfl)
theorem qq0 : TOk Tryz.prog 124 (tabD.getD 124 TInfo.off) := q08 (by kernel_rfl) (by kernel_rfl) (by kernel_rfl)
theorem qq1 : TOk Tryz.prog 125 (tabD.getD 125 TInfo.off) := q08 (by kernel_rfl) (by kernel_rfl) (by kernel_rfl)
theorem qq2 : TOk Tryz.prog 126 (tabD.getD 126 TInfo.off) := q08 (by kernel_rfl) (by kernel_rfl) (by kernel_rfl)
theorem qq3 : TOk Tryz.prog 127 (tabD.getD 127 TInfo.off) := q08 (by kernel_rfl) (by kernel_rfl) (by kernel_rfl)
theorem qq4 : TOk Tryz.prog 128 (tabD.getD 128 TInfo.off) := q08 (by kernel_rfl) (by kernel_rfl) (by kernel_rfl)
theorem qq5 : TOk Tryz.prog 129 (tabD.getD 129 TInfo.off) := q08 (by kernel_rfl) (by kernel_rfl) (by kernel_rfl)
theorem qq6 : TOk Tryz.prog 130 (tabD.getD 130 TInfo.off) := q08 (by kernel_rfl) (by kernel_rfl) (by kernel_rfl)
theorem qq7 : TOk Tryz.prog 131 (tabD.getD 131 TInfo.off) := q08 (by kernel_rfl) (by kernel_rfl) (by kernel_rfl)
theorem qq8 : TOk Tryz.prog 132 (tabD.getD 132 TInfo.off) := q08 (by kernel_rfl) (by kernel_rfl) (by kernel_rfl)
theorem qq9 : TOk Tryz.prog 133 (tabD.getD 133 TInfo.off) := q08 (by kernel_rfl) (by kernel_rfl) (by kernel_rfl)
theorem qqa : TOk Tryz.prog 134 (tabD.getD 134 TInfo.off) := q08 (by kernel_rfl) (by kernel_rfl) (by kernel_rfl)
theorem qqb : TOk Tryz.prog 135 (tabD.getD 135 TInfo.off) := q08 (by kernel_rfl) (by kernel_rfl) (by kernel_rfl)
theorem qqc : TOk Tryz.prog 136 (tabD.getD 136 TInfo.off) := q08 (by kernel_rfl) (by kernel_rfl) (by kernel_rfl)
theorem qqd : TOk Tryz.prog 137 (tabD.getD 137 TInfo.off) := q08 (by kernel_rfl) (by kernel_rfl) (by kernel_rfl)
theorem qqe : TOk Tryz.prog 138 (tabD.getD 138 TInfo.off) := q08 (by kernel_rfl) (by kernel_rfl) (by kernel_rfl)
theorem qqf : TOk Tryz.prog 139 (tabD.getD 139 TInfo.off) := q08 (by kernel_rfl) (by kernel_rfl) (by kernel_rfl)
theorem qqg : TOk Tryz.prog 140 (tabD.getD 140 TInfo.off) := q08 (by kernel_rfl) (by kernel_rfl) (by kernel_rfl)
theorem qqh : TOk Tryz.prog 141 (tabD.getD 141 TInfo.off) := q08 (by kernel_rfl) (by kernel_rfl) (by kernel_rfl)
theorem qqi : TOk Tryz.prog 142 (tabD.getD 142 TInfo.off) := q08 (by kernel_rfl) (by kernel_rfl) (by kernel_rfl)
theorem qqj : TOk Tryz.prog 143 (tabD.getD 143 TInfo.off) := q08 (by kernel_rfl) (by kernel_rfl) (by kernel_rfl)
theorem qqk : TOk Tryz.prog 144 (tabD.getD 144 TInfo.off) := q08 (by kernel_rfl) (by kernel_rfl) (by kernel_rfl)
theorem qql : TOk Tryz.prog 145 (tabD.getD 145 TInfo.off) := q08 (by kernel_rfl) (by kernel_rfl) (by kernel_rfl)
theorem qqm : TOk Tryz.prog 146 (tabD.getD 146 TInfo.off) := q08 (by kernel_rfl) (by kernel_rfl) (by kernel_rfl)
theorem qqn : TOk Tryz.prog 147 (tabD.getD 147 TInfo.off) := q08 (by kernel_rfl) (by kernel_rfl) (by kernel_rfl)
theorem qqo : TOk Tryz.prog 148 (tabD.getD 148 TInfo.off) := q08 (by kernel_rfl) (by kernel_rfl) (by kernel_rfl)
theorem qqp : TOk Tryz.prog 149 (tabD.getD 149 TInfo.off) := q08 (by kernel_rfl) (by kernel_rfl) (by kernel_rfl)
theorem qqq : TOk Tryz.prog 150 (tabD.getD 150 TInfo.off) := q08 (by kernel_rfl) (by kernel_rfl) (by kernel_rfl)
theorem qqr : TOk Tryz.prog 151 (tabD.getD 151 TInfo.off) := q08 (by kernel_rfl) (by kernel_rfl) (by kernel_rfl)
theorem qqs : TOk Tryz.prog 152 (tabD.getD 152 TInfo.off) := q08 (by kernel_rfl) (by kernel_rfl) (by kernel_rfl)
theorem qqt : TOk Tryz.prog 153 (tabD.getD 153 TInfo.off) := q08 (by kernel_rfl) (by kernel_rfl) (by kernel_rfl)
theorem qqu : TOk Tryz.prog 154 (tabD.getD 154 TInfo.off) := q08 (by kernel_rfl) (by kernel_rfl) (by kernel_rfl)
theorem qqv : TOk Tryz.prog 155 (tabD.getD 155 TInfo.off) := q08 (by kernel_rfl) (by kernel_rfl) (by kernel_rfl)
theorem qqw : TOk Tryz.prog 156 (tabD.getD 156 TInfo.off) := q08 (by kernel_rfl) (by kernel_rfl) (by kernel_rfl)
theorem qqx : TOk Tryz.prog 157 (tabD.getD 157 TInfo.off) := q08 (by kernel_rfl) (by kernel_rfl) (by kernel_rfl)
theorem qqy : TOk Tryz.prog 158 (tabD.getD 158 TInfo.off) := q08 (by kernel_rfl) (by kernel_rfl) (by kernel_rfl)
theorem qqz : TOk Tryz.prog 159 (tabD.getD 159 TInfo.off) := q08 (by kernel_rfl) (by kernel_rfl) (by kernel_rfl)
theorem qr0 : TOk Tryz.prog 160 (tabD.getD 160 TInfo.off) := q08 (by kernel_rfl) (by kernel_rfl) (by kernel_rfl)
theorem qr1 : TOk Tryz.prog 161 (tabD.getD 161 TInfo.off) := q08 (by kernel_rfl) (by kernel_rfl) (by kernel_rfl)
theorem qr2 : TOk Tryz.prog 162 (tabD.getD 162 TInfo.off) := q08 (by kernel_rfl) (by kernel_rfl) (by kernel_rfl)
theorem qr3 : TOk Tryz.prog 163 (tabD.getD 163 TInfo.off) := q08 (by kernel_rfl) (by kernel_rfl) (by kernel_rfl)
theorem qr4 : TOk Tryz.prog 164 (tabD.getD 164 TInfo.off) := q08 (by kernel_rfl) (by kernel_rfl) (by kernel_rfl)
theorem qr5 : TOk Tryz.prog 165 (tabD.getD 165 TInfo.off) := q08 (by kernel_rfl) (by kernel_rfl) (by kernel_rfl)
theorem qr6 : TOk Tryz.prog 166 (tabD.getD 166 TInfo.off) := q08 (by kernel_rfl) (by kernel_rfl) (by kernel_rfl)
theorem qr7 : TOk Tryz.prog 167 (tabD.getD 167 TInfo.off) := q08 (by kernel_rfl) (by kernel_rfl) (by kernel_rfl)
theorem qr8 : TOk Tryz.prog 168 (tabD.getD 168 TInfo.off) := q08 (by kernel_rfl) (by kernel_rfl) (by kernel_rfl)
theorem qr9 : TOk Tryz.prog 169 (tabD.getD 169 TInfo.off) := q08 (by kernel_rfl) (by kernel_rfl) (by kernel_rfl)
theorem qra : TOk Tryz.prog 170 (tabD.getD 170 TInfo.off) := q08 (by kernel_rfl) (by kernel_rfl) (by kernel_rfl)
theorem qrb : TOk Tryz.prog 171 (tabD.getD 171 TInfo.off) := q08 (by kernel_rfl) (by kernel_rfl) (by kernel_rfl)
theorem qrc : TOk Tryz.prog 172 (tabD.getD 172 TInfo.off) := q08 (by kernel_rfl) (by kernel_rfl) (by kernel_rfl)
theorem qrd : TOk Tryz.prog 173 (tabD.getD 173 TInfo.off) := q08 (by kernel_rfl) (by kernel_rfl) (by kernel_rfl)
theorem qre : TOk Tryz.prog 174 (tabD.getD 174 TInfo.off) := q08 (by kernel_rfl) (by kernel_rfl) (by kernel_rfl)
theorem qrf : TOk Tryz.prog 175 (tabD.getD 175 TInfo.off) := q08 (by kernel_rfl) (by kernel_rfl) (by kernel_rfl)
theorem qrg : TOk Tryz.prog 176 (tabD.getD 176 TInfo.off) := q08 (by kernel_rfl) (by kernel_rfl) (by kernel_rfl)
theorem qrh : TOk Tryz.prog 177 (tabD.getD 177 TInfo.off) := q08 (by kernel_rfl) (by kernel_rfl) (by kernel_rfl)
theorem qri : TOk Tryz.prog 178 (tabD.getD 178 TInfo.off) := q08 (by kernel_rfl) (by kernel_rfl) (by kernel_rfl)
theorem qrj : TOk Tryz.prog 179 (tabD.getD 179 TInfo.off) := q08 (by kernel_rfl) (by kernel_rfl) (by kernel_rfl)
theorem qrk : TOk Tryz.prog 180 (tabD.getD 180 TInfo.off) := q08 (by kernel_rfl) (by kernel_rfl) (by kernel_rfl)
theorem qrl : TOk Tryz.prog 181 (tabD.getD 181 TInfo.off) := q08 (by kernel_rfl) (by kernel_rfl) (by kernel_rfl)
theorem qrm : TOk Tryz.prog 182 (tabD.getD 182 TInfo.off) := q08 (by kernel_rfl) (by kernel_rfl) (by kernel_rfl)
theorem qrn : TOk Tryz.prog 183 (tabD.getD 183 TInfo.off) := q08 (by kernel_rfl) (by kernel_rfl) (by kernel_rfl)
theorem qro : TOk Tryz.prog 184 (tabD.getD 184 TInfo.off) := q08 (by kernel_rfl) (by kernel_rfl) (by kernel_rfl)
theorem qrp : TOk Tryz.prog 185 (tabD.getD 185 TInfo.off) := q08 (by kernel_rfl) (by kernel_rfl) (by kernel_rfl)
theorem qrq : TOk Tryz.prog 186 (tabD.getD 186 TInfo.off) := q08 (by kernel_rfl) (by kernel_rfl) (by kernel_rfl)
theorem qrr : TOk Tryz.prog 187 (tabD.getD 187 TInfo.off) := q08 (by kernel_rfl) (by kernel_rfl) (by kernel_rfl)
theorem qrs : TOk Tryz.prog 188 (tabD.getD 188 TInfo.off) := q08 (by kernel_rfl) (by kernel_rfl) (by kernel_rfl)
theorem qrt : TOk Tryz.prog 189 (tabD.getD 189 TInfo.off) := q08 (by kernel_rfl) (by kernel_rfl) (by kernel_rfl)
theorem qru : TOk Tryz.prog 190 (tabD.getD 190 TInfo.off) := q08 (by kernel_rfl) (by kernel_rfl) (by kernel_rfl)
theorem qrv : TOk Tryz.prog 191 (tabD.getD 191 TInfo.off) := q08 (by kernel_rfl) (by kernel_rfl) (by kernel_rfl)
theorem qrw : TOk Tryz.prog 192 (tabD.getD 192 TInfo.off) := q08 (by kernel_rfl) (by kernel_rfl) (by kernel_rfl)
theorem qrx : TOk Tryz.prog 193 (tabD.getD 193 TInfo.off) := q08 (by kernel_rfl) (by kernel_rfl) (by kernel_rfl)
theorem qry : TOk Tryz.prog 194 (tabD.getD 194 TInfo.off) := q08 (by kernel_rfl) (by kernel_rfl) (by kernel_rfl)
theorem qrz : TOk Tryz.prog 195 (tabD.getD 195 TInfo.off) := q08 (by kernel_rfl) (by kernel_rfl) (by kernel_rfl)
theorem qs0 : TOk Tryz.prog 196 (tabD.getD 196 TInfo.off) := q08 (by kernel_rfl) (by kernel_rfl) (by kernel_rfl)
theorem qs1 : TOk Tryz.prog 197 (tabD.getD 197 TInfo.off) := q08 (by kernel_rfl) (by kernel_rfl) (by kernel_rfl)
theorem qs3 : TOk Tryz.prog 198 (tabD.getD 198 TInfo.off) := q08 (by kernel_rfl) (by kernel_rfl) (by kernel_rfl)
theorem qs4 : TOk Tryz.prog 199 (tabD.getD 199 TInfo.off) := q08 (by kernel_rfl) (by kernel_rfl) (by kernel_rfl)
theorem qs5 : TOk Tryz.prog 200 (tabD.getD 200 TInfo.off) := q08 (by kernel_rfl) (by kernel_rfl) (by kernel_rfl)
theorem qs6 : TOk Tryz.prog 201 (tabD.getD 201 TInfo.off) := q08 (by kernel_rfl) (by kernel_rfl) (by kernel_rfl)
theorem qs7 : TOk Tryz.prog 202 (tabD.getD 202 TInfo.off) := q08 (by kernel_rfl) (by kernel_rfl) (by kernel_rfl)
theorem qs8 : TOk Tryz.prog 203 (tabD.getD 203 TInfo.off) := q08 (by kernel_rfl) (by kernel_rfl) (by kernel_rfl)
theorem qs9 : TOk Tryz.prog 204 (tabD.getD 204 TInfo.off) := q08 (by kernel_rfl) (by kernel_rfl) (by kernel_rfl)
theorem qsa : TOk Tryz.prog 205 (tabD.getD 205 TInfo.off) := q08 (by kernel_rfl) (by kernel_rfl) (by kernel_rfl)
theorem qsb : TOk Tryz.prog 206 (tabD.getD 206 TInfo.off) := q08 (by kernel_rfl) (by kernel_rfl) (by kernel_rfl)
theorem qsc : TOk Tryz.prog 207 (tabD.getD 207 TInfo.off) := q08 (by kernel_rfl) (by kernel_rfl) (by kernel_rfl)
theorem qsd : TOk Tryz.prog 208 (tabD.getD 208 TInfo.off) := q08 (by kernel_rfl) (by kernel_rfl) (by kernel_rfl)
theorem qse : TOk Tryz.prog 209 (tabD.getD 209 TInfo.off) := q08 (by kernel_rfl) (by kernel_rfl) (by kernel_rfl)
theorem qsf : TOk Tryz.prog 210 (tabD.getD 210 TInfo.off) := q08 (by kernel_rfl) (by kernel_rfl) (by kernel_rfl)
theorem qsg : TOk Tryz.prog 211 (tabD.getD 211 TInfo.off) := q08 (by kernel_rfl) (by kernel_rfl) (by kernel_rfl)
theorem qsh : TOk Tryz.prog 212 (tabD.getD 212 TInfo.off) := q08 (by kernel_rfl) (by kernel_rfl) (by kernel_rfl)
theorem qsi : TOk Tryz.prog 213 (tabD.getD 213 TInfo.off) := q08 (by kernel_rfl) (by kernel_rfl) (by kernel_rfl)
theorem qsj : TOk Tryz.prog 214 (tabD.getD 214 TInfo.off) := q08 (by kernel_rfl) (by kernel_rfl) (by kernel_rfl)
theorem qsk : TOk Tryz.prog 215 (tabD.getD 215 TInfo.off) := q08 (by kernel_rfl) (by kernel_rfl) (by kernel_rfl)
theorem qsl : TOk Tryz.prog 216 (tabD.getD 216 TInfo.off) := q08 (by kernel_rfl) (by kernel_rfl) (by kernel_rfl)
theorem qsm : TOk Tryz.prog 217 (tabD.getD 217 TInfo.off) := q08 (by kernel_rfl) (by kernel_rfl) (by kernel_rfl)
theorem qsn : TOk Tryz.prog 218 (tabD.getD 218 TInfo.off) := q08 (by kernel_rfl) (by kernel_rfl) (by kernel_rfl)
theorem qso : TOk Tryz.prog 219 (tabD.getD 219 TInfo.off) := q08 (by kernel_rfl) (by kernel_rfl) (by kernel_rfl)
theorem qsp : TOk Tryz.prog 220 (tabD.getD 220 TInfo.off) := q08 (by kernel_rfl) (by kernel_rfl) (by kernel_rfl)
theorem qsq : TOk Tryz.prog 221 (tabD.getD 221 TInfo.off) := q08 (by kernel_rfl) (by kernel_rfl) (by kernel_rfl)
theorem qsr : TOk Tryz.prog 222 (tabD.getD 222 TInfo.off) := q08 (by kernel_rfl) (by kernel_rfl) (by kernel_rfl)
theorem qss : TOk Tryz.prog 223 (tabD.getD 223 TInfo.off) := q08 (by kernel_rfl) (by kernel_rfl) (by kernel_rfl)
theorem qst : TOk Tryz.prog 224 (tabD.getD 224 TInfo.off) := q08 (by kernel_rfl) (by kernel_rfl) (by kernel_rfl)
theorem qsu : TOk Tryz.prog 225 (tabD.getD 225 TInfo.off) := q08 (by kernel_rfl) (by kernel_rfl) (by kernel_rfl)
theorem qsv : TOk Tryz.prog 226 (tabD.getD 226 TInfo.off) := q08 (by kernel_rfl) (by kernel_rfl) (by kernel_rfl)
theorem qsw : TOk Tryz.prog 227 (tabD.getD 227 TInfo.off) := q08 (by kernel_rfl) (by kernel_rfl) (by kernel_rfl)
theorem qsx : TOk Tryz.prog 228 (tabD.getD 228 TInfo.off) := q08 (by kernel_rfl) (by kernel_rfl) (by kernel_rfl)
theorem qsy : TOk Tryz.prog 229 (tabD.getD 229 TInfo.off) := q08 (by kernel_rfl) (by kernel_rfl) (by kernel_rfl)
theorem qsz : TOk Tryz.prog 230 (tabD.getD 230 TInfo.off) := q08 (by kernel_rfl) (by kernel_rfl) (by kernel_rfl)
theorem qt0 : TOk Tryz.prog 231 (tabD.getD 231 TInfo.off) := q08 (by kernel_rfl) (by kernel_rfl) (by kernel_rfl)
theorem qt1 : TOk Tryz.prog 232 (tabD.getD 232 TInfo.off) := q08 (by kernel_rfl) (by kernel_rfl) (by kernel_rfl)
theorem qt2 : TOk Tryz.prog 233 (tabD.getD 233 TInfo.off) := q08 (by kernel_rfl) (by kernel_rfl) (by kernel_rfl)
theorem qt3 : TOk Tryz.prog 234 (tabD.getD 234 TInfo.off) := q08 (by kernel_rfl) (by kernel_rfl) (by kernel_rfl)
theorem qt4 : TOk Tryz.prog 235 (tabD.getD 235 TInfo.off) := q08 (by kernel_rfl) (by kernel_rfl) (by kernel_rfl)
theorem qt5 : TOk Tryz.prog 236 (tabD.getD 236 TInfo.off) := q08 (by kernel_rfl) (by kernel_rfl) (by kernel_rfl)
theorem qt6 : TOk Tryz.prog 237 (tabD.getD 237 TInfo.off) := q08 (by kernel_rfl) (by kernel_rfl) (by kernel_rfl)
theorem qt7 : TOk Tryz.prog 238 (tabD.getD 238 TInfo.off) := q08 (by kernel_rfl) (by kernel_rfl) (by kernel_rfl)
theorem qt8 : TOk Tryz.prog 239 (tabD.getD 239 TInfo.off) := q08 (by kernel_rfl) (by kernel_rfl) (by kernel_rfl)
theorem qt9 : TOk Tryz.prog 240 (tabD.getD 240 TInfo.off) := q08 (by kernel_rfl) (by kernel_rfl) (by kernel_rfl)
theorem qta : TOk Tryz.prog 241 (tabD.getD 241 TInfo.off) := q08 (by kernel_rfl) (by kernel_rfl) (by kernel_rfl)
theorem qtb : TOk Tryz.prog 242 (tabD.getD 242 TInfo.off) := q08 (by kernel_rfl) (by kernel_rfl) (by kernel_rfl)
theorem qtc : TOk Tryz.prog 243 (tabD.getD 243 TInfo.off) := q08 (by kernel_rfl) (by kernel_rfl) (by kernel_rfl)
theorem qtd : TOk Tryz.prog 244 (tabD.getD 244 TInfo.off) := q08 (by kernel_rfl) (by kernel_rfl) (by kernel_rfl)
theorem qte : TOk Tryz.prog 245 (tabD.getD 245 TInfo.off) := q08 (by kernel_rfl) (by kernel_rfl) (by kernel_rfl)
theorem qtf : TOk Tryz.prog 246 (tabD.getD 246 TInfo.off) := q08 (by kernel_rfl) (by kernel_rfl) (by kernel_rfl)
theorem qtg : TOk Tryz.prog 247 (tabD.getD 247 TInfo.off) := q08 (by kernel_rfl) (by kernel_rfl) (by kernel_rfl)
theorem qth : TOk Tryz.prog 248 (tabD.getD 248 TInfo.off) := q08 (by kernel_rfl) (by kernel_rfl) (by kernel_rfl)
theorem qti : TOk Tryz.prog 249 (tabD.getD 249 TInfo.off) := q08 (by kernel_rfl) (by kernel_rfl) (by kernel_rfl)
theorem qtj : TOk Tryz.prog 250 (tabD.getD 250 TInfo.off) := q08 (by kernel_rfl) (by kernel_rfl) (by kernel_rfl)
theorem qtk : TOk Tryz.prog 251 (tabD.getD 251 TInfo.off) := q08 (by kernel_rfl) (by kernel_rfl) (by kernel_rfl)
theorem qtl : TOk Tryz.prog 252 (tabD.getD 252 TInfo.off) := q08 (by kernel_rfl) (by kernel_rfl) (by kernel_rfl)
theorem qtm : TOk Tryz.prog 253 (tabD.getD 253 TInfo.off) := q08 (by kernel_rfl) (by kernel_rfl) (by kernel_rfl)
theorem qtn : TOk Tryz.prog 254 (tabD.getD 254 TInfo.off) := q08 (by kernel_rfl) (by kernel_rfl) (by kernel_rfl)
theorem qto : TOk Tryz.prog 255 (tabD.getD 255 TInfo.off) := q08 (by kernel_rfl) (by kernel_rfl) (by kernel_rfl)
theorem qtp : TOk Tryz.prog 256 (tabD.getD 256 TInfo.off) := q08 (by kernel_rfl) (by kernel_rfl) (by kernel_rfl)
theorem qtq : TOk Tryz.prog 257 (tabD.getD 257 TInfo.off) := q08 (by kernel_rfl) (by kernel_rfl) (by kernel_rfl)
theorem qtr : TOk Tryz.prog 258 (tabD.getD 258 TInfo.off) := q08 (by kernel_rfl) (by kernel_rfl) (by kernel_rfl)
theorem qts : TOk Tryz.prog 259 (tabD.getD 259 TInfo.off) := q08 (by kernel_rfl) (by kernel_rfl) (by kernel_rfl)
theorem qtt : TOk Tryz.prog 260 (tabD.getD 260 TInfo.off) := q08 (by kernel_rfl) (by kernel_rfl) (by kernel_rfl)
theorem qtu : TOk Tryz.prog 261 (tabD.getD 261 TInfo.off) := q08 (by kernel_rfl) (by kernel_rfl) (by kernel_rfl)
theorem qtv : TOk Tryz.prog 262 (tabD.getD 262 TInfo.off) := q08 (by kernel_rfl) (by kernel_rfl) (by kernel_rfl)
theorem qtw : TOk Tryz.prog 263 (tabD.getD 263 TInfo.off) := q08 (by kernel_rfl) (by kernel_rfl) (by kernel_rfl)
theorem qtx : TOk Tryz.prog 264 (tabD.getD 264 TInfo.off) := q08 (by kernel_rfl) (by kernel_rfl) (by kernel_rfl)
theorem qty : TOk Tryz.prog 265 (tabD.getD 265 TInfo.off) := q08 (by kernel_rfl) (by kernel_rfl) (by kernel_rfl)
theorem qtz : TOk Tryz.prog 266 (tabD.getD 266 TInfo.off) := q08 (by kernel_rfl) (by kernel_rfl) (by kernel_rfl)
theorem qu0 : TOk Tryz.prog 267 (tabD.getD 267 TInfo.off) := q08 (by kernel_rfl) (by kernel_rfl) (by kernel_rfl)
theorem qu1 : TOk Tryz.prog 268 (tabD.getD 268 TInfo.off) := q08 (by kernel_rfl) (by kernel_rfl) (by kernel_rfl)
theorem qu2 : TOk Tryz.prog 269 (tabD.getD 269 TInfo.off) := q08 (by kernel_rfl) (by kernel_rfl) (by kernel_rfl)
theorem qu3 : TOk Tryz.prog 270 (tabD.getD 270 TInfo.off) := q08 (by kernel_rfl) (by kernel_rfl) (by kernel_rfl)
theorem qu4 : TOk Tryz.prog 271 (tabD.getD 271 TInfo.off) := q08 (by kernel_rfl) (by kernel_rfl) (by kernel_rfl)
theorem qu5 : TOk Tryz.prog 272 (tabD.getD 272 TInfo.off) := q08 (by kernel_rfl) (by kernel_rfl) (by kernel_rfl)
theorem qu6 : TOk Tryz.prog 273 (tabD.getD 273 TInfo.off) := q08 (by kernel_rfl) (by kernel_rfl) (by kernel_rfl)
theorem qu7 : TOk Tryz.prog 274 (tabD.getD 274 TInfo.off) := q08 (by kernel_rfl) (by kernel_rfl) (by kernel_rfl)
theorem qu8 : TOk Tryz.prog 275 (tabD.getD 275 TInfo.off) := q08 (by kernel_rfl) (by kernel_rfl) (by kernel_rfl)
theorem qu9 : TOk Tryz.prog 276 (tabD.getD 276 TInfo.off) := q08 (by kernel_rfl) (by kernel_rfl) (by kernel_rfl)
theorem qua : TOk Tryz.prog 277 (tabD.getD 277 TInfo.off) := q08 (by kernel_rfl) (by kernel_rfl) (by kernel_rfl)
theorem qub : TOk Tryz.prog 278 (tabD.getD 278 TInfo.off) := q08 (by kernel_rfl) (by kernel_rfl) (by kernel_rfl)
theorem quc : TOk Tryz.prog 279 (tabD.getD 279 TInfo.off) := q08 (by kernel_rfl) (by kernel_rfl) (by kernel_rfl)
theorem qud : TOk Tryz.prog 280 (tabD.getD 280 TInfo.off) := q08 (by kernel_rfl) (by kernel_rfl) (by kernel_rfl)
theorem que : TOk Tryz.prog 281 (tabD.getD 281 TInfo.off) := q08 (by kernel_rfl) (by kernel_rfl) (by kernel_rfl)
theorem quf : TOk Tryz.prog 282 (tabD.getD 282 TInfo.off) := q08 (by kernel_rfl) (by kernel_rfl) (by kernel_rfl)
theorem qug : TOk Tryz.prog 283 (tabD.getD 283 TInfo.off) := q08 (by kernel_rfl) (by kernel_rfl) (by kernel_rfl)
theorem quh : TOk Tryz.prog 284 (tabD.getD 284 TInfo.off) := q08 (by kernel_rfl) (by kernel_rfl) (by kernel_rfl)
theorem qui : TOk Tryz.prog 285 (tabD.getD 285 TInfo.off) := q08 (by kernel_rfl) (by kernel_rfl) (by kernel_rfl)
theorem quj : TOk Tryz.prog 286 (tabD.getD 286 TInfo.off) := q08 (by kernel_rfl) (by kernel_rfl) (by kernel_rfl)
theorem quk : TOk Tryz.prog 287 (tabD.getD 287 TInfo.off) := q08 (by kernel_rfl) (by kernel_rfl) (by kernel_rfl)
theorem qul : TOk Tryz.prog 288 (tabD.getD 288 TInfo.off) := q08 (by kernel_rfl) (by kernel_rfl) (by kernel_rfl)
theorem qum : TOk Tryz.prog 289 (tabD.getD 289 TInfo.off) := q08 (by kernel_rfl) (by kernel_rfl) (by kernel_rfl)
theorem qun : TOk Tryz.prog 290 (tabD.getD 290 TInfo.off) := q08 (by kernel_rfl) (by kernel_rfl) (by kernel_rfl)
theorem qup : TOk Tryz.prog 291 (tabD.getD 291 TInfo.off) := q08 (by kernel_rfl) (by kernel_rfl) (by kernel_rfl)
theorem quq : TOk Tryz.prog 292 (tabD.getD 292 TInfo.off) := q08 (by kernel_rfl) (by kernel_rfl) (by kernel_rfl)
theorem qur : TOk Tryz.prog 293 (tabD.getD 293 TInfo.off) := q08 (by kernel_rfl) (by kernel_rfl) (by kernel_rfl)
theorem qus : TOk Tryz.prog 294 (tabD.getD 294 TInfo.off) := q08 (by kernel_rfl) (by kernel_rfl) (by kernel_rfl)
theorem qut : TOk Tryz.prog 295 (tabD.getD 295 TInfo.off) := q08 (by kernel_rfl) (by kernel_rfl) (by kernel_rfl)
theorem quu : TOk Tryz.prog 296 (tabD.getD 296 TInfo.off) := q08 (by kernel_rfl) (by kernel_rfl) (by kernel_rfl)
theorem quv : TOk Tryz.prog 297 (tabD.getD 297 TInfo.off) := q08 (by kernel_rfl) (by kernel_rfl) (by kernel_rfl)
theorem quw : TOk Tryz.prog 298 (tabD.getD 298 TInfo.off) := q08 (by kernel_rfl) (by kernel_rfl) (by kernel_rfl)
theorem qux : TOk Tryz.prog 299 (tabD.getD 299 TInfo.off) := q08 (by kernel_rfl) (by kernel_rfl) (by kernel_rfl)
theorem quy : TOk Tryz.prog 300 (tabD.getD 300 TInfo.off) := q08 (by kernel_rfl) (by kernel_rfl) (by kernel_rfl)
theorem quz : TOk Tryz.prog 301 (tabD.getD 301 TInfo.off) := q08 (by kernel_rfl) (by kernel_rfl) (by kernel_rfl)
theorem qv0 : TOk Tryz.prog 302 (tabD.getD 302 TInfo.off) := q08 (by kernel_rfl) (by kernel_rfl) (by kernel_rfl)
theorem qv1 : TOk Tryz.prog 303 (tabD.getD 303 TInfo.off) := q08 (by kernel_rfl) (by kernel_rfl) (by kernel_rfl)
theorem qv2 : TOk Tryz.prog 304 (tabD.getD 304 TInfo.off) := q08 (by kernel_rfl) (by kernel_rfl) (by kernel_rfl)
theorem qv3 : TOk Tryz.prog 305 (tabD.getD 305 TInfo.off) := q08 (by kernel_rfl) (by kernel_rfl) (by kernel_rfl)
theorem qv4 : TOk Tryz.prog 306 (tabD.getD 306 TInfo.off) := q08 (by kernel_rfl) (by kernel_rfl) (by kernel_rfl)
theorem qv5 : TOk Tryz.prog 307 (tabD.getD 307 TInfo.off) := q08 (by kernel_rfl) (by kernel_rfl) (by kernel_rfl)
theorem qv6 : TOk Tryz.prog 308 (tabD.getD 308 TInfo.off) := q08 (by kernel_rfl) (by kernel_rfl) (by kernel_rfl)
theorem qv7 : TOk Tryz.prog 309 (tabD.getD 309 TInfo.off) := q08 (by kernel_rfl) (by kernel_rfl) (by kernel_rfl)
theorem qv8 : TOk Tryz.prog 310 (tabD.getD 310 TInfo.off) := q08 (by kernel_rfl) (by kernel_rfl) (by kernel_rfl)
theorem qv9 : TOk Tryz.prog 311 (tabD.getD 311 TInfo.off) := q08 (by kernel_rfl) (by kernel_rfl) (by kernel_rfl)
theorem qva : TOk Tryz.prog 312 (tabD.getD 312 TInfo.off) := q08 (by kernel_rfl) (by kernel_rfl) (by kernel_rfl)
theorem qvb : TOk Tryz.prog 313 (tabD.getD 313 TInfo.off) := q08 (by kernel_rfl) (by kernel_rfl) (by kernel_rfl)
theorem qvc : TOk Tryz.prog 314 (tabD.getD 314 TInfo.off) := q08 (by kernel_rfl) (by kernel_rfl) (by kernel_rfl)
theorem qvd : TOk Tryz.prog 315 (tabD.getD 315 TInfo.off) := q08 (by kernel_rfl) (by kernel_rfl) (by kernel_rfl)
theorem qve : TOk Tryz.prog 316 (tabD.getD 316 TInfo.off) := q08 (by kernel_rfl) (by kernel_rfl) (by kernel_rfl)
theorem qvf : TOk Tryz.prog 317 (tabD.getD 317 TInfo.off) := q08 (by kernel_rfl) (by kernel_rfl) (by kernel_rfl)
theorem qvg : TOk Tryz.prog 318 (tabD.getD 318 TInfo.off) := q08 (by kernel_rfl) (by kernel_rfl) (by kernel_rfl)
theorem qvh : TOk Tryz.prog 319 (tabD.getD 319 TInfo.off) := q08 (by kernel_rfl) (by kernel_rfl) (by kernel_rfl)
theorem qvi : TOk Tryz.prog 320 (tabD.getD 320 TInfo.off) := q08 (by kernel_rfl) (by kernel_rfl) (by kernel_rfl)
theorem qvj : TOk Tryz.prog 321 (tabD.getD 321 TInfo.off) := q08 (by kernel_rfl) (by kernel_rfl) (by kernel_rfl)
theorem qvk : TOk Tryz.prog 322 (tabD.getD 322 TInfo.off) := q08 (by kernel_rfl) (by kernel_rfl) (by kernel_rfl)
theorem allT : AllT Tryz.prog 0 tabD := ⟨tok_0, tok_1, tok_2, tok_3, tok_4, tok_5, tok_6, tok_7, tok_8, tok_9, qw6, qw7, qw8, qw9, qwa, qwb, qwc, qwd, qwe, qwf, qwg, qwh, qwi, qwj, qwk, qwl, qwm, qwn, qwo, qwp, qwq, qwr, qws, qwt, qwu, qwv, qww, qwx, qwy, qwz, qx0, qx1, qx2, qx3, qx4, qx5, qx6, qx7, qx8, qx9, qxa, qxb, qxc, qxd, qxe, qxf, qxg, qxh, qxi, qxj, qxk, qxl, qxm, qxn, qxo, qxp, qxq, qxr, qxs, qxt, qxu, qxv, qxw, qxx, qxy, qxz, qy0, qy1, qy2, qy3, qy4, qy5, qy6, qy7, qy8, qy9, qya, qyb, qyc, qyd, qye, qyf, qyg, qyh, qyi, qyj, qyk, qyl, qym, qyn, qpc, qpd, qpe, qpf, qpg, qph, qpi, qpj, qpk, qpl, qpm, qpn, qpo, qpp, qpq, qpr, qps, qpt, qpu, qpv, qpw, qpx, qpy, qpz, qq0, qq1, qq2, qq3, qq4, qq5, qq6, qq7, qq8, qq9, qqa, qqb, qqc, qqd, qqe, qqf, qqg, qqh, qqi, qqj, qqk, qql, qqm, qqn, qqo, qqp, qqq, qqr, qqs, qqt, qqu, qqv, qqw, qqx, qqy, qqz, qr0, qr1, qr2, qr3, qr4, qr5, qr6, qr7, qr8, qr9, qra, qrb, qrc, qrd, qre, qrf, qrg, qrh, qri, qrj, qrk, qrl, qrm, qrn, qro, qrp, qrq, qrr, qrs, qrt, qru, qrv, qrw, qrx, qry, qrz, qs0, qs1, qs3, qs4, qs5, qs6, qs7, qs8, qs9, qsa, qsb, qsc, qsd, qse, qsf, qsg, qsh, qsi, qsj, qsk, qsl, qsm, qsn, qso, qsp, qsq, qsr, qss, qst, qsu, qsv, qsw, qsx, qsy, qsz, qt0, qt1, qt2, qt3, qt4, qt5, qt6, qt7, qt8, qt9, qta, qtb, qtc, qtd, qte, qtf, qtg, qth, qti, qtj, qtk, qtl, qtm, qtn, qto, qtp, qtq, qtr, qts, qtt, qtu, qtv, qtw, qtx, qty, qtz, qu0, qu1, qu2, qu3, qu4, qu5, qu6, qu7, qu8, qu9, qua, qub, quc, qud, que, quf, qug, quh, qui, quj, quk, qul, qum, qun, qup, quq, qur, qus, qut, quu, quv, quw, qux, quy, quz, qv0, qv1, qv2, qv3, qv4, qv5, qv6, qv7, qv8, qv9, qva, qvb, qvc, qvd, qve, qvf, qvg, qvh, qvi, qvj, qvk, trivial⟩
theorem hD (t : TypeId) : TOk Tryz.prog t (D t) := by have h := qhq tabD 0 t allT; rwa [Nat.zero_add] at h
theorem hmix : Tryz.prog.follows .mixedOrders = true := by kernel_rfl
theorem D_all : D t_int64 = ⟨(.int .i64), 1, 8, .int .i64 0⟩ ∧ D t_int = ⟨(.int .i64), 1, 8, .int .i64 0⟩ ∧ D t_bool = ⟨.bool, 1, 1, .bool false⟩ ∧ D t_uint8 = ⟨(.int .u8), 1, 1, .int .u8 0⟩ ∧ D t_abi_BoundsErrorCode = ⟨(.int .u8), 1, 1, .int .u8 0⟩ ∧ D t_string = ⟨.str, 1, 16, .string ⟨⟨[]⟩⟩⟩ ∧ D t_uintptr = ⟨(.int .u64), 1, 8, .int .u64 0⟩ ∧ D t_int32 = ⟨(.int .i32), 1, 4, .int .i32 0⟩ ∧ D t_L_api_Atom = ⟨(.slice t_api_Atom), 1, 24, .slice none 0 0⟩ ∧ D t_api_Node = ⟨(.struct [(0, t_int), (1, t_int), (2, t_string), (3, t_string), (4, t_bool), (5, t_int)]), 6, 64, .agg ⟨[.int .i64 0, .int .i64 0, .string ⟨⟨[]⟩⟩, .string ⟨⟨[]⟩⟩, .bool false, .int .i64 0]⟩⟩ ∧ D t_api_Atom = ⟨(.struct [(0, t_int), (1, t_api_Node)]), 7, 72, .agg ⟨[.int .i64 0, .int .i64 0, .int .i64 0, .string ⟨⟨[]⟩⟩, .string ⟨⟨[]⟩⟩, .bool false, .int .i64 0]⟩⟩ ∧ D t__2_int = ⟨(.array 2 t_int), 2, 16, .agg ⟨[.int .i64 0, .int .i64 0]⟩⟩ ∧ D t_L_api_Node = ⟨(.slice t_api_Node), 1, 24, .slice none 0 0⟩ ∧ D t_api_Val = ⟨(.slice t_api_Node), 1, 24, .slice none 0 0⟩ ∧ D t_L_api_Val = ⟨(.slice t_api_Val), 1, 24, .slice none 0 0⟩ ∧ D t_L_string = ⟨(.slice t_string), 1, 24, .slice none 0 0⟩ ∧ D t_api_Type = ⟨(.slice t_api_Ty), 1, 24, .slice none 0 0⟩ ∧ D t_api_Path = ⟨(.slice t_api_Step), 1, 24, .slice none 0 0⟩ ∧ D t_api_Errno = ⟨(.int .i64), 1, 8, .int .i64 0⟩ ∧ D t_api_Ty = ⟨(.struct [(0, t_int), (1, t_int), (2, t_string), (3, t_string), (4, t_int), (5, t_api_Node)]), 11, 120, .agg ⟨[.int .i64 0, .int .i64 0, .string ⟨⟨[]⟩⟩, .string ⟨⟨[]⟩⟩, .int .i64 0, .int .i64 0, .int .i64 0, .string ⟨⟨[]⟩⟩, .string ⟨⟨[]⟩⟩, .bool false, .int .i64 0]⟩⟩ ∧ D t_L_int = ⟨(.slice t_int), 1, 24, .slice none 0 0⟩ ∧ D t_api_Edit = ⟨(.struct [(0, t_int), (1, t_api_Path), (2, t_api_Val)]), 3, 56, .agg ⟨[.int .i64 0, .slice none 0 0, .slice none 0 0]⟩⟩ ∧ D t_api_Step = ⟨(.struct [(0, t_bool), (1, t_string), (2, t_int)]), 3, 32, .agg ⟨[.bool false, .string ⟨⟨[]⟩⟩, .int .i64 0]⟩⟩ ∧ D t_map_int_int = ⟨(.map t_int t_int), 1, 8, .map none⟩ ∧ D t_L_bool = ⟨(.slice t_bool), 1, 24, .slice none 0 0⟩ ∧ D t_val_open = ⟨(.struct [(0, t_int), (1, t_int), (2, t_bool), (3, t_string)]), 4, 40, .agg ⟨[.int .i64 0, .int .i64 0, .bool false, .string ⟨⟨[]⟩⟩]⟩⟩ ∧ D t_L_val_open = ⟨(.slice t_val_open), 1, 24, .slice none 0 0⟩ ∧ D t_L_uint8 = ⟨(.slice t_uint8), 1, 24, .slice none 0 0⟩ ∧ D t_utf8_acceptRange = ⟨(.struct [(0, t_uint8), (1, t_uint8)]), 2, 2, .agg ⟨[.int .u8 0, .int .u8 0]⟩⟩ ∧ D t_uint32 = ⟨(.int .u32), 1, 4, .int .u32 0⟩ ∧ D t__0_P_runtime_PanicNilError = ⟨(.array 0 t_P_runtime_PanicNilError), 0, 0, .agg ⟨[]⟩⟩ ∧ D t_abi_TFlag = ⟨(.int .u8), 1, 1, .int .u8 0⟩ ∧ D t_abi_Kind = ⟨(.int .u8), 1, 1, .int .u8 0⟩ ∧ D t_abi_NameOff = ⟨(.int .i32), 1, 4, .int .i32 0⟩ ∧ D t_abi_TypeOff = ⟨(.int .i32), 1, 4, .int .i32 0⟩ := by (repeat' constructor) <;> rfl
theorem F_all : f_loupelaw11_AtomTurns = 4 ∧ f_loupelaw11_alive = 22 ∧ f_atom_Right = 23 ∧ f_louperef11_Right = 24 ∧ f_louperef11_All = 25 ∧ f_louperef11_Member = 26 ∧ f_atom_Holds = 27 ∧ f_louperef11_Holds = 28 ∧ f_atom_Turn = 29 ∧ f_atom_Member = 31 ∧ f_louperef02_Utf = 37 ∧ f_louperef02_Right = 42 ∧ f_val_Names = 44 ∧ f_atom_Beside = 81 ∧ f_atom_Least = 82 ∧ f_atom_isPlain = 83 ∧ f_louperef11_plain = 84 ∧ f_louperef11_Lets = 85 ∧ f_order_Cmp = 86 ∧ f_louperef10_Says = 87 ∧ f_louperef05_Cmp = 88 ∧ f_slices_ContainsFunc_L_api_Atom_api_Atom_ = 89 ∧ f_atom_Member_1 = 90 ∧ f_val_Right = 94 ∧ f_val_each = 95 ∧ f_louperef02_Names = 96 ∧ f_louperef02_Parts = 97 ∧ f_louperef02_Rune = 98 ∧ f_val_Parts = 99 ∧ f_louperef02_Next = 105 ∧ f_louperef02_plain = 106 ∧ f_louperef02_rising = 107 ∧ f_num_Make = 151 ∧ f_atom_up = 152 ∧ f_atom_down = 153 ∧ f_strings_Repeat = 154 ∧ f_atom_candidates = 155 ∧ f_cmp_Compare_int_ = 156 ∧ f_num_Cmp = 157 ∧ f_cmp_Compare_string_ = 158 ∧ f_slices_Compare_L_string_string_ = 159 ∧ f_slices_CompareFunc_L_api_Val_L_api_Val_api_Val_api_Val_ = 160 ∧ f_louperef05_sign = 161 ∧ f_louperef01_Cmp = 162 ∧ f_louperef05_rows = 163 ∧ f_louperef05_names = 164 ∧ f_slices_IndexFunc_L_api_Atom_api_Atom_ = 165 ∧ f_unicode_utf8_ValidString = 166 ∧ f_val_isPlain = 170 ∧ f_slices_ContainsFunc_L_val_open_val_open_ = 171 ∧ f_val_Right_1 = 172 ∧ f_val_each_1 = 173 ∧ f_val_behind = 174 ∧ f_slices_Clone_api_Val_api_Node_ = 175 ∧ f_louperef02_own = 176 ∧ f_louperef02_cont = 177 ∧ f_louperef01_Right = 184 ∧ f_num_isFigures = 207 ∧ f_strings_TrimLeft = 208 ∧ f_strings_TrimRight = 209 ∧ f_num_isPower = 210 ∧ f_atom_candidates_1 = 217 ∧ f_cmp_isNaN_int_ = 218 ∧ f_num_size = 219 ∧ f_cmp_isNaN_string_ = 220 ∧ f_louperef01_at = 221 ∧ f_num_Right = 226 ∧ f_slices_IndexFunc_L_val_open_val_open_ = 227 ∧ f_louperef01_figures = 230 ∧ f_strings_TrimFunc = 244 ∧ f_num_isFigure = 245 ∧ f_strings_Trim = 261 := by (repeat' constructor) <;> rfl
end Lp

/-! LpC1 -/

namespace Lp
open Go Go.Proofs
def qa9 : LC :=
  (.seq (.reg [⟨some 4, .assign (.const (.int .i64 0)), none, false⟩])
  (.seq (.seq (.draw [⟨some 7, .move (.tmp 0), none, false⟩,
   ⟨some 8, .indexAddr t_api_Val (.tmp 7) (.const (.int .i64 0)), none, false⟩,
   ⟨some 9, .fieldAddr t_api_Node (.tmp 8) 0, none, false⟩,
   ⟨some 10, .load t_int (.tmp 9), none, false⟩,
   ⟨some 11, .move (.tmp 1), none, false⟩,
   ⟨some 12, .indexAddr t_api_Val (.tmp 11) (.const (.int .i64 0)), none, false⟩,
   ⟨some 13, .fieldAddr t_api_Node (.tmp 12) 0, none, false⟩,
   ⟨some 14, .load t_int (.tmp 13), none, false⟩,
   ⟨some 15, .call ⟨.value (.func f_cmp_Compare_int_), ⟨[(.tmp 10), (.tmp 14)]⟩, ⟨[t_int, t_int]⟩⟩, none, false⟩,
   ⟨some 5, .assign (.tmp 15), none, false⟩]
  [0, 0, 0, 0, 15, 15, 15, 15, 0, 0])
  (.seq (.reg [⟨some 16, .move (.tmp 5), none, false⟩,
   ⟨some 17, .binOp .neq t_int (.tmp 16) (.const (.int .i64 0)) t_int, none, false⟩])
  (.cond (.tmp 17)
   (.seq (.reg [⟨some 18, .move (.tmp 5), none, false⟩,
    ⟨some 4, .assign (.tmp 18), none, false⟩])
   .ret)
   .skip)))
  (.seq (.seq (.reg [⟨some 19, .move (.tmp 0), none, false⟩,
   ⟨some 20, .indexAddr t_api_Val (.tmp 19) (.const (.int .i64 0)), none, false⟩,
   ⟨some 21, .fieldAddr t_api_Node (.tmp 20) 0, none, false⟩,
   ⟨some 22, .load t_int (.tmp 21), none, false⟩])
  (.block 0 (.seq (.reg [⟨some 24, .binOp .eql t_int (.tmp 22) (.const (.int .i64 3)) t_int, none, false⟩,
    ⟨some 23, .assign (.tmp 24), none, false⟩])
   (.cond (.tmp 23)
    (.seq (.draw [⟨some 25, .move (.tmp 0), none, false⟩,
     ⟨some 26, .indexAddr t_api_Val (.tmp 25) (.const (.int .i64 0)), none, false⟩,
     ⟨some 27, .load t_api_Node (.tmp 26), none, false⟩,
     ⟨some 28, .move (.tmp 1), none, false⟩,
     ⟨some 29, .indexAddr t_api_Val (.tmp 28) (.const (.int .i64 0)), none, false⟩,
     ⟨some 30, .load t_api_Node (.tmp 29), none, false⟩,
     ⟨some 31, .call ⟨.value (.func f_num_Cmp), ⟨[(.tmp 27), (.tmp 30)]⟩, ⟨[t_api_Node, t_api_Node]⟩⟩, none, false⟩,
     ⟨some 4, .assign (.tmp 31), none, false⟩]
    [0, 0, 0, 7, 7, 7, 0, 0])
    .ret)
    (.seq (.reg [⟨some 33, .binOp .eql t_int (.tmp 22) (.const (.int .i64 4)) t_int, none, false⟩,
     ⟨some 32, .assign (.tmp 33), none, false⟩])
    (.cond (.tmp 32)
     (.seq (.draw [⟨some 34, .move (.tmp 0), none, false⟩,
      ⟨some 35, .indexAddr t_api_Val (.tmp 34) (.const (.int .i64 0)), none, false⟩,
      ⟨some 36, .fieldAddr t_api_Node (.tmp 35) 3, none, false⟩,
      ⟨some 37, .load t_string (.tmp 36), none, false⟩,
      ⟨some 38, .move (.tmp 1), none, false⟩,
      ⟨some 39, .indexAddr t_api_Val (.tmp 38) (.const (.int .i64 0)), none, false⟩,
      ⟨some 40, .fieldAddr t_api_Node (.tmp 39) 3, none, false⟩,
      ⟨some 41, .load t_string (.tmp 40), none, false⟩,
      ⟨some 42, .call ⟨.value (.func f_cmp_Compare_string_), ⟨[(.tmp 37), (.tmp 41)]⟩, ⟨[t_string, t_string]⟩⟩, none, false⟩,
      ⟨some 4, .assign (.tmp 42), none, false⟩]
     [0, 0, 0, 0, 15, 15, 15, 15, 0, 0])
     .ret)
     (.seq (.reg [⟨some 44, .binOp .eql t_int (.tmp 22) (.const (.int .i64 6)) t_int, none, false⟩,
      ⟨some 43, .assign (.tmp 44), none, false⟩])
     (.cond (.tmp 43)
      (.seq (.reg [⟨some 45, .move (.tmp 0), none, false⟩,
       ⟨some 46, .call ⟨.value (.func f_val_Names), ⟨[(.tmp 45)]⟩, ⟨[t_api_Val]⟩⟩, none, false⟩,
       ⟨some 47, .move (.tmp 1), none, false⟩,
       ⟨some 48, .call ⟨.value (.func f_val_Names), ⟨[(.tmp 47)]⟩, ⟨[t_api_Val]⟩⟩, none, false⟩,
       ⟨some 49, .call ⟨.value (.func f_slices_Compare_L_string_string_), ⟨[(.tmp 46), (.tmp 48)]⟩, ⟨[t_L_string, t_L_string]⟩⟩, none, false⟩,
       ⟨some 6, .assign (.tmp 49), none, false⟩])
      (.seq (.reg [⟨some 50, .move (.tmp 6), none, false⟩,
       ⟨some 51, .binOp .neq t_int (.tmp 50) (.const (.int .i64 0)) t_int, none, false⟩])
      (.cond (.tmp 51)
       (.seq (.reg [⟨some 52, .move (.tmp 6), none, false⟩,
        ⟨some 4, .assign (.tmp 52), none, false⟩])
       .ret)
       .skip)))
      (.seq (.reg [⟨some 54, .binOp .eql t_int (.tmp 22) (.const (.int .i64 5)) t_int, none, false⟩,
       ⟨some 53, .assign (.tmp 54), none, false⟩])
      (.cond (.tmp 53)
       .skip
       (.seq (.reg [⟨some 4, .assign (.const (.int .i64 0)), none, false⟩])
       .ret)))))))))))
  (.seq (.reg [⟨some 55, .move (.tmp 0), none, false⟩,
   ⟨some 56, .call ⟨.value (.func f_val_Parts), ⟨[(.tmp 55)]⟩, ⟨[t_api_Val]⟩⟩, none, false⟩,
   ⟨some 57, .move (.tmp 1), none, false⟩,
   ⟨some 58, .call ⟨.value (.func f_val_Parts), ⟨[(.tmp 57)]⟩, ⟨[t_api_Val]⟩⟩, none, false⟩,
   ⟨some 59, .call ⟨.value (.func f_slices_CompareFunc_L_api_Val_L_api_Val_api_Val_api_Val_), ⟨[(.tmp 56), (.tmp 58), (.func f_order_Cmp)]⟩, ⟨[t_L_api_Val, t_L_api_Val, t_func_api_Val__api_Val__int]⟩⟩, none, false⟩,
   ⟨some 4, .assign (.tmp 59), none, false⟩])
  .ret))))
theorem k_order_Cmp : FnOk Tryz.prog f_order_Cmp 60 [.tmp 4] qa9 := ⟨_, _, Tryz.func86, by kernel_rfl, rfl, Tryz.ntmps86, rfl, by kernel_rfl⟩
def q15 : LC :=
  (.seq (.reg [⟨some 4, .assign (.const (.int .i64 0)), none, false⟩])
  (.seq (.draw [⟨some 10, .move (.tmp 0), none, false⟩,
   ⟨some 11, .indexAddr t_api_Val (.tmp 10) (.const (.int .i64 0)), none, false⟩,
   ⟨some 12, .fieldAddr t_api_Node (.tmp 11) 0, none, false⟩,
   ⟨some 13, .load t_int (.tmp 12), none, false⟩,
   ⟨some 14, .move (.tmp 1), none, false⟩,
   ⟨some 15, .indexAddr t_api_Val (.tmp 14) (.const (.int .i64 0)), none, false⟩,
   ⟨some 16, .fieldAddr t_api_Node (.tmp 15) 0, none, false⟩,
   ⟨some 17, .load t_int (.tmp 16), none, false⟩,
   ⟨some 5, .assign (.tmp 13), none, false⟩,
   ⟨some 6, .assign (.tmp 17), none, false⟩]
  [0, 0, 0, 0, 15, 15, 15, 15, 240, 0])
  (.seq (.seq (.reg [⟨some 18, .move (.tmp 5), none, false⟩,
   ⟨some 19, .move (.tmp 6), none, false⟩,
   ⟨some 20, .binOp .neq t_int (.tmp 18) (.tmp 19) t_int, none, false⟩])
  (.cond (.tmp 20)
   (.seq (.reg [⟨some 21, .move (.tmp 5), none, false⟩,
    ⟨some 22, .move (.tmp 6), none, false⟩,
    ⟨some 23, .binOp .lss t_int (.tmp 21) (.tmp 22) t_int, none, false⟩,
    ⟨some 24, .call ⟨.value (.func f_louperef05_sign), ⟨[(.tmp 23), (.const (.bool false))]⟩, ⟨[t_bool, t_bool]⟩⟩, none, false⟩,
    ⟨some 4, .assign (.tmp 24), none, false⟩])
   .ret)
   .skip))
  (.seq (.seq (.reg [⟨some 25, .move (.tmp 5), none, false⟩])
  (.block 0 (.seq (.reg [⟨some 27, .binOp .eql t_int (.tmp 25) (.const (.int .i64 3)) t_int, none, false⟩,
    ⟨some 26, .assign (.tmp 27), none, false⟩])
   (.cond (.tmp 26)
    (.seq (.draw [⟨some 28, .move (.tmp 0), none, false⟩,
     ⟨some 29, .indexAddr t_api_Val (.tmp 28) (.const (.int .i64 0)), none, false⟩,
     ⟨some 30, .load t_api_Node (.tmp 29), none, false⟩,
     ⟨some 31, .move (.tmp 1), none, false⟩,
     ⟨some 32, .indexAddr t_api_Val (.tmp 31) (.const (.int .i64 0)), none, false⟩,
     ⟨some 33, .load t_api_Node (.tmp 32), none, false⟩,
     ⟨some 7, .alloc t_api_Node, none, false⟩,
     ⟨some 8, .alloc t_api_Node, none, false⟩,
     ⟨none, .store t_api_Node (.tmp 7) (.tmp 30), none, false⟩,
     ⟨none, .store t_api_Node (.tmp 8) (.tmp 33), none, false⟩]
    [0, 0, 0, 7, 7, 7, 63, 127, 56, 0])
    (.seq (.reg [⟨some 34, .fieldAddr t_api_Node (.tmp 7) 2, none, false⟩,
     ⟨none, .store t_string (.tmp 34) (.const (.string ⟨⟨[]⟩⟩)), none, false⟩])
    (.seq (.reg [⟨some 35, .fieldAddr t_api_Node (.tmp 8) 2, none, false⟩,
     ⟨none, .store t_string (.tmp 35) (.const (.string ⟨⟨[]⟩⟩)), none, false⟩])
    (.seq (.reg [⟨some 36, .load t_api_Node (.tmp 7), none, false⟩,
     ⟨some 37, .load t_api_Node (.tmp 8), none, false⟩,
     ⟨some 38, .call ⟨.value (.func f_louperef01_Cmp), ⟨[(.tmp 36), (.tmp 37)]⟩, ⟨[t_api_Node, t_api_Node]⟩⟩, none, false⟩,
     ⟨some 4, .assign (.tmp 38), none, false⟩])
    .ret))))
    (.seq (.reg [⟨some 40, .binOp .eql t_int (.tmp 25) (.const (.int .i64 4)) t_int, none, false⟩,
     ⟨some 39, .assign (.tmp 40), none, false⟩])
    (.cond (.tmp 39)
     (.seq (.draw [⟨some 41, .move (.tmp 0), none, false⟩,
      ⟨some 42, .indexAddr t_api_Val (.tmp 41) (.const (.int .i64 0)), none, false⟩,
      ⟨some 43, .fieldAddr t_api_Node (.tmp 42) 3, none, false⟩,
      ⟨some 44, .load t_string (.tmp 43), none, false⟩,
      ⟨some 45, .move (.tmp 1), none, false⟩,
      ⟨some 46, .indexAddr t_api_Val (.tmp 45) (.const (.int .i64 0)), none, false⟩,
      ⟨some 47, .fieldAddr t_api_Node (.tmp 46) 3, none, false⟩,
      ⟨some 48, .load t_string (.tmp 47), none, false⟩,
      ⟨some 49, .binOp .lss t_string (.tmp 44) (.tmp 48) t_string, none, false⟩,
      ⟨some 50, .move (.tmp 0), none, false⟩,
      ⟨some 51, .indexAddr t_api_Val (.tmp 50) (.const (.int .i64 0)), none, false⟩,
      ⟨some 52, .fieldAddr t_api_Node (.tmp 51) 3, none, false⟩,
      ⟨some 53, .load t_string (.tmp 52), none, false⟩,
      ⟨some 54, .move (.tmp 1), none, false⟩,
      ⟨some 55, .indexAddr t_api_Val (.tmp 54) (.const (.int .i64 0)), none, false⟩,
      ⟨some 56, .fieldAddr t_api_Node (.tmp 55) 3, none, false⟩,
      ⟨some 57, .load t_string (.tmp 56), none, false⟩,
      ⟨some 58, .binOp .eql t_string (.tmp 53) (.tmp 57) t_string, none, false⟩,
      ⟨some 59, .call ⟨.value (.func f_louperef05_sign), ⟨[(.tmp 49), (.tmp 58)]⟩, ⟨[t_bool, t_bool]⟩⟩, none, false⟩,
      ⟨some 4, .assign (.tmp 59), none, false⟩]
     [0, 0, 0, 0, 15, 15, 15, 15, 0, 511, 511, 511, 511, 8191, 8191, 8191, 8191, 511, 0, 0])
     .ret)
     (.seq (.reg [⟨some 61, .binOp .eql t_int (.tmp 25) (.const (.int .i64 5)) t_int, none, false⟩,
      ⟨some 60, .assign (.tmp 61), none, false⟩])
     (.cond (.tmp 60)
      (.seq (.reg [⟨some 62, .move (.tmp 0), none, false⟩,
       ⟨some 63, .call ⟨.value (.func f_louperef02_Parts), ⟨[(.tmp 62)]⟩, ⟨[t_api_Val]⟩⟩, none, false⟩,
       ⟨some 64, .move (.tmp 1), none, false⟩,
       ⟨some 65, .call ⟨.value (.func f_louperef02_Parts), ⟨[(.tmp 64)]⟩, ⟨[t_api_Val]⟩⟩, none, false⟩,
       ⟨some 66, .call ⟨.value (.func f_louperef05_rows), ⟨[(.tmp 63), (.tmp 65)]⟩, ⟨[t_L_api_Val, t_L_api_Val]⟩⟩, none, false⟩,
       ⟨some 4, .assign (.tmp 66), none, false⟩])
      .ret)
      (.seq (.reg [⟨some 68, .binOp .eql t_int (.tmp 25) (.const (.int .i64 6)) t_int, none, false⟩,
       ⟨some 67, .assign (.tmp 68), none, false⟩])
      (.cond (.tmp 67)
       (.seq (.reg [⟨some 69, .move (.tmp 0), none, false⟩,
        ⟨some 70, .call ⟨.value (.func f_louperef02_Names), ⟨[(.tmp 69)]⟩, ⟨[t_api_Val]⟩⟩, none, false⟩,
        ⟨some 71, .move (.tmp 1), none, false⟩,
        ⟨some 72, .call ⟨.value (.func f_louperef02_Names), ⟨[(.tmp 71)]⟩, ⟨[t_api_Val]⟩⟩, none, false⟩,
        ⟨some 73, .call ⟨.value (.func f_louperef05_names), ⟨[(.tmp 70), (.tmp 72)]⟩, ⟨[t_L_string, t_L_string]⟩⟩, none, false⟩,
        ⟨some 9, .assign (.tmp 73), none, false⟩])
       (.seq (.seq (.reg [⟨some 74, .move (.tmp 9), none, false⟩,
        ⟨some 75, .binOp .neq t_int (.tmp 74) (.const (.int .i64 0)) t_int, none, false⟩])
       (.cond (.tmp 75)
        (.seq (.reg [⟨some 76, .move (.tmp 9), none, false⟩,
         ⟨some 4, .assign (.tmp 76), none, false⟩])
        .ret)
        .skip))
       (.seq (.reg [⟨some 77, .move (.tmp 0), none, false⟩,
        ⟨some 78, .call ⟨.value (.func f_louperef02_Parts), ⟨[(.tmp 77)]⟩, ⟨[t_api_Val]⟩⟩, none, false⟩,
        ⟨some 79, .move (.tmp 1), none, false⟩,
        ⟨some 80, .call ⟨.value (.func f_louperef02_Parts), ⟨[(.tmp 79)]⟩, ⟨[t_api_Val]⟩⟩, none, false⟩,
        ⟨some 81, .call ⟨.value (.func f_louperef05_rows), ⟨[(.tmp 78), (.tmp 80)]⟩, ⟨[t_L_api_Val, t_L_api_Val]⟩⟩, none, false⟩,
        ⟨some 4, .assign (.tmp 81), none, false⟩])
       .ret)))
       .skip))))))))))
  (.seq (.reg [⟨some 4, .assign (.const (.int .i64 0)), none, false⟩])
  .ret)))))
theorem k_louperef05_Cmp : FnOk Tryz.prog f_louperef05_Cmp 82 [.tmp 4] q15 := ⟨_, _, Tryz.func88, by kernel_rfl, rfl, Tryz.ntmps88, rfl, by kernel_rfl⟩
def q52 : LC :=
  (.seq (.reg [⟨some 2, .assign (.const (.bool false)), none, false⟩])
  (.seq (.reg [⟨some 3, .assign (.const (.int .i64 0)), none, false⟩])
  (.seq (.block 0 (.loop [true, false, false, true, false, false, false, false, false, false, false, false, false, false, false, false, false] none
   (.seq (.seq (.reg [⟨some 5, .move (.tmp 3), none, false⟩,
     ⟨some 6, .move (.tmp 0), none, false⟩,
     ⟨some 7, .call ⟨.builtin .len, ⟨[(.tmp 6)]⟩, ⟨[t_string]⟩⟩, none, false⟩,
     ⟨some 8, .binOp .lss t_int (.tmp 5) (.tmp 7) t_int, none, false⟩])
    (.cond (.tmp 8)
     .skip
     (.exit 0)))
    (.block 1 (.seq (.reg [⟨some 9, .move (.tmp 0), none, false⟩,
      ⟨some 10, .move (.tmp 3), none, false⟩,
      ⟨some 11, .call ⟨.value (.func f_louperef02_Rune), ⟨[(.tmp 9), (.tmp 10)]⟩, ⟨[t_string, t_int]⟩⟩, none, false⟩,
      ⟨some 4, .assign (.tmp 11), none, false⟩])
     (.seq (.seq (.reg [⟨some 12, .move (.tmp 4), none, false⟩,
      ⟨some 13, .binOp .eql t_int (.tmp 12) (.const (.int .i64 0)) t_int, none, false⟩])
     (.cond (.tmp 13)
      (.seq (.reg [⟨some 2, .assign (.const (.bool false)), none, false⟩])
      .ret)
      .skip))
     (.reg [⟨some 14, .move (.tmp 3), none, false⟩,
      ⟨some 15, .move (.tmp 4), none, false⟩,
      ⟨some 16, .binOp .add t_int (.tmp 14) (.tmp 15) t_int, none, false⟩,
      ⟨some 3, .assign (.tmp 16), none, false⟩])))))))
  (.seq (.reg [⟨some 2, .assign (.const (.bool true)), none, false⟩])
  .ret))))
theorem k_louperef02_Utf : FnOk Tryz.prog f_louperef02_Utf 17 [.tmp 2] q52 := ⟨_, _, Tryz.func37, by kernel_rfl, rfl, Tryz.ntmps37, rfl, by kernel_rfl⟩
def q1f : LC :=
  (.seq (.reg [⟨some 2, .assign (.const (.bool false)), none, false⟩])
  (.seq (.seq (.reg [⟨some 4, .move (.tmp 0), none, false⟩,
   ⟨some 5, .call ⟨.builtin .len, ⟨[(.tmp 4)]⟩, ⟨[t_api_Val]⟩⟩, none, false⟩,
   ⟨some 6, .binOp .eql t_int (.tmp 5) (.const (.int .i64 0)) t_int, none, false⟩,
   ⟨some 7, .move (.tmp 6), none, false⟩,
   ⟨some 8, .move (.tmp 0), some (some 7, false), false⟩,
   ⟨some 9, .indexAddr t_api_Val (.tmp 8) (.const (.int .i64 0)), some (some 7, false), false⟩,
   ⟨some 10, .fieldAddr t_api_Node (.tmp 9) 2, some (some 7, false), false⟩,
   ⟨some 11, .load t_string (.tmp 10), some (some 7, false), false⟩,
   ⟨some 12, .binOp .neq t_string (.tmp 11) (.const (.string ⟨⟨[]⟩⟩)) t_string, some (some 7, false), false⟩,
   ⟨some 13, .pick (.tmp 7) (.const (.bool true)) (.tmp 12), none, false⟩,
   ⟨some 14, .move (.tmp 13), none, false⟩,
   ⟨some 15, .move (.tmp 0), some (some 14, false), false⟩,
   ⟨some 16, .call ⟨.value (.func f_louperef02_Next), ⟨[(.tmp 15), (.const (.int .i64 0))]⟩, ⟨[t_api_Val, t_int]⟩⟩, some (some 14, false), false⟩,
   ⟨some 17, .move (.tmp 0), some (some 14, false), false⟩,
   ⟨some 18, .call ⟨.builtin .len, ⟨[(.tmp 17)]⟩, ⟨[t_api_Val]⟩⟩, some (some 14, false), false⟩,
   ⟨some 19, .binOp .neq t_int (.tmp 16) (.tmp 18) t_int, some (some 14, false), false⟩,
   ⟨some 20, .pick (.tmp 14) (.const (.bool true)) (.tmp 19), none, false⟩])
  (.cond (.tmp 20)
   (.seq (.reg [⟨some 2, .assign (.const (.bool false)), none, false⟩])
   .ret)
   .skip))
  (.seq (.seq (.reg [⟨some 3, .assign (.const (.int .i64 0)), none, false⟩])
  (.block 0 (.loop [true, false, false, true, false, false, false, false, false, false, false, false, false, false, false, false, false, false, false, false, false, false, false, false, false, false, false, false, false, false, false, false, false, false, false, false, false, false, false] none
   (.seq (.seq (.reg [⟨some 21, .move (.tmp 3), none, false⟩,
     ⟨some 22, .move (.tmp 0), none, false⟩,
     ⟨some 23, .call ⟨.builtin .len, ⟨[(.tmp 22)]⟩, ⟨[t_api_Val]⟩⟩, none, false⟩,
     ⟨some 24, .binOp .lss t_int (.tmp 21) (.tmp 23) t_int, none, false⟩])
    (.cond (.tmp 24)
     .skip
     (.exit 0)))
    (.seq (.block 1 (.seq (.reg [⟨some 27, .move (.tmp 0), none, false⟩,
      ⟨some 28, .move (.tmp 3), none, false⟩,
      ⟨some 29, .indexAddr t_api_Val (.tmp 27) (.tmp 28), none, false⟩,
      ⟨some 30, .load t_api_Node (.tmp 29), none, false⟩,
      ⟨some 31, .call ⟨.value (.func f_louperef02_plain), ⟨[(.tmp 30)]⟩, ⟨[t_api_Node]⟩⟩, none, false⟩,
      ⟨some 32, .unOp .not t_bool (.tmp 31), none, false⟩,
      ⟨some 33, .move (.tmp 32), none, false⟩,
      ⟨some 34, .move (.tmp 0), some (some 33, false), false⟩,
      ⟨some 35, .move (.tmp 3), some (some 33, false), false⟩,
      ⟨some 36, .call ⟨.value (.func f_louperef02_rising), ⟨[(.tmp 34), (.tmp 35)]⟩, ⟨[t_api_Val, t_int]⟩⟩, some (some 33, false), false⟩,
      ⟨some 37, .unOp .not t_bool (.tmp 36), some (some 33, false), false⟩,
      ⟨some 38, .pick (.tmp 33) (.const (.bool true)) (.tmp 37), none, false⟩])
     (.cond (.tmp 38)
      (.seq (.reg [⟨some 2, .assign (.const (.bool false)), none, false⟩])
      .ret)
      .skip)))
    (.reg [⟨some 25, .move (.tmp 3), none, false⟩,
     ⟨some 26, .binOp .add t_int (.tmp 25) (.const (.int .i64 1)) t_int, none, false⟩,
     ⟨some 3, .assign (.tmp 26), none, false⟩]))))))
  (.seq (.reg [⟨some 2, .assign (.const (.bool true)), none, false⟩])
  .ret))))
theorem k_louperef02_Right : FnOk Tryz.prog f_louperef02_Right 39 [.tmp 2] q1f := ⟨_, _, Tryz.func42, by kernel_rfl, rfl, Tryz.ntmps42, rfl, by kernel_rfl⟩
def q3u : LC :=
  (.seq (.reg [⟨some 4, .assign (.const (.int .i64 0)), none, false⟩])
  (.seq (.reg [⟨some 7, .move (.tmp 0), none, false⟩,
   ⟨some 8, .call ⟨.value (.func f_cmp_isNaN_int_), ⟨[(.tmp 7)]⟩, ⟨[t_int]⟩⟩, none, false⟩,
   ⟨some 5, .assign (.tmp 8), none, false⟩])
  (.seq (.reg [⟨some 9, .move (.tmp 1), none, false⟩,
   ⟨some 10, .call ⟨.value (.func f_cmp_isNaN_int_), ⟨[(.tmp 9)]⟩, ⟨[t_int]⟩⟩, none, false⟩,
   ⟨some 6, .assign (.tmp 10), none, false⟩])
  (.seq (.seq (.reg [⟨some 11, .move (.tmp 5), none, false⟩])
  (.cond (.tmp 11)
   (.seq (.seq (.reg [⟨some 12, .move (.tmp 6), none, false⟩])
   (.cond (.tmp 12)
    (.seq (.reg [⟨some 4, .assign (.const (.int .i64 0)), none, false⟩])
    .ret)
    .skip))
   (.seq (.reg [⟨some 4, .assign (.const (.int .i64 (-1))), none, false⟩])
   .ret))
   .skip))
  (.seq (.seq (.reg [⟨some 13, .move (.tmp 6), none, false⟩])
  (.cond (.tmp 13)
   (.seq (.reg [⟨some 4, .assign (.const (.int .i64 1)), none, false⟩])
   .ret)
   .skip))
  (.seq (.seq (.reg [⟨some 14, .move (.tmp 0), none, false⟩,
   ⟨some 15, .move (.tmp 1), none, false⟩,
   ⟨some 16, .binOp .lss t_int (.tmp 14) (.tmp 15) t_int, none, false⟩])
  (.cond (.tmp 16)
   (.seq (.reg [⟨some 4, .assign (.const (.int .i64 (-1))), none, false⟩])
   .ret)
   .skip))
  (.seq (.seq (.reg [⟨some 17, .move (.tmp 0), none, false⟩,
   ⟨some 18, .move (.tmp 1), none, false⟩,
   ⟨some 19, .binOp .gtr t_int (.tmp 17) (.tmp 18) t_int, none, false⟩])
  (.cond (.tmp 19)
   (.seq (.reg [⟨some 4, .assign (.const (.int .i64 1)), none, false⟩])
   .ret)
   .skip))
  (.seq (.reg [⟨some 4, .assign (.const (.int .i64 0)), none, false⟩])
  .ret))))))))
theorem k_cmp_Compare_int_ : FnOk Tryz.prog f_cmp_Compare_int_ 20 [.tmp 4] q3u := ⟨_, _, Tryz.func156, by kernel_rfl, rfl, Tryz.ntmps156, rfl, by kernel_rfl⟩
def qem : LC :=
  (.seq (.reg [⟨some 2, .box t_api_Node (.tmp 0), none, false⟩,
   ⟨some 3, .box t_api_Node (.tmp 1), none, false⟩,
   ⟨some 4, .assign (.const (.int .i64 0)), none, false⟩])
  (.seq (.block 0 (.seq (.weak (.reg [⟨some 6, .fieldAddr t_api_Node (.tmp 2) 4, none, false⟩,
    ⟨some 7, .load t_bool (.tmp 6), none, false⟩,
    ⟨some 8, .move (.tmp 7), none, false⟩,
    ⟨some 9, .fieldAddr t_api_Node (.tmp 3) 4, some (some 8, true), false⟩,
    ⟨some 10, .load t_bool (.tmp 9), some (some 8, true), false⟩,
    ⟨some 11, .unOp .not t_bool (.tmp 10), some (some 8, true), false⟩,
    ⟨some 12, .pick (.tmp 8) (.tmp 11) (.const (.bool false)), none, false⟩,
    ⟨some 5, .assign (.tmp 12), none, false⟩]))
   (.cond (.tmp 5)
    (.seq (.reg [⟨some 4, .assign (.const (.int .i64 (-1))), none, false⟩])
    .ret)
    (.seq (.reg [⟨some 14, .fieldAddr t_api_Node (.tmp 3) 4, none, false⟩,
     ⟨some 15, .load t_bool (.tmp 14), none, false⟩,
     ⟨some 16, .move (.tmp 15), none, false⟩,
     ⟨some 17, .fieldAddr t_api_Node (.tmp 2) 4, some (some 16, true), false⟩,
     ⟨some 18, .load t_bool (.tmp 17), some (some 16, true), false⟩,
     ⟨some 19, .unOp .not t_bool (.tmp 18), some (some 16, true), false⟩,
     ⟨some 20, .pick (.tmp 16) (.tmp 19) (.const (.bool false)), none, false⟩,
     ⟨some 13, .assign (.tmp 20), none, false⟩])
    (.cond (.tmp 13)
     (.seq (.reg [⟨some 4, .assign (.const (.int .i64 1)), none, false⟩])
     .ret)
     (.seq (.reg [⟨some 22, .fieldAddr t_api_Node (.tmp 2) 4, none, false⟩,
      ⟨some 23, .load t_bool (.tmp 22), none, false⟩,
      ⟨some 21, .assign (.tmp 23), none, false⟩])
     (.cond (.tmp 21)
      (.seq (.reg [⟨some 24, .load t_api_Node (.tmp 3), none, false⟩,
       ⟨some 25, .load t_api_Node (.tmp 2), none, false⟩,
       ⟨some 26, .call ⟨.value (.func f_num_size), ⟨[(.tmp 24), (.tmp 25)]⟩, ⟨[t_api_Node, t_api_Node]⟩⟩, none, false⟩,
       ⟨some 4, .assign (.tmp 26), none, false⟩])
      .ret)
      .skip)))))))
  (.seq (.reg [⟨some 27, .load t_api_Node (.tmp 2), none, false⟩,
   ⟨some 28, .load t_api_Node (.tmp 3), none, false⟩,
   ⟨some 29, .call ⟨.value (.func f_num_size), ⟨[(.tmp 27), (.tmp 28)]⟩, ⟨[t_api_Node, t_api_Node]⟩⟩, none, false⟩,
   ⟨some 4, .assign (.tmp 29), none, false⟩])
  .ret)))
theorem k_num_Cmp : FnOk Tryz.prog f_num_Cmp 30 [.tmp 4] qem := ⟨_, _, Tryz.func157, by kernel_rfl, rfl, Tryz.ntmps157, rfl, by kernel_rfl⟩
def q2u : LC :=
  (.seq (.reg [⟨some 4, .assign (.const (.int .i64 0)), none, false⟩])
  (.seq (.reg [⟨some 7, .move (.tmp 0), none, false⟩,
   ⟨some 8, .call ⟨.value (.func f_cmp_isNaN_string_), ⟨[(.tmp 7)]⟩, ⟨[t_string]⟩⟩, none, false⟩,
   ⟨some 5, .assign (.tmp 8), none, false⟩])
  (.seq (.reg [⟨some 9, .move (.tmp 1), none, false⟩,
   ⟨some 10, .call ⟨.value (.func f_cmp_isNaN_string_), ⟨[(.tmp 9)]⟩, ⟨[t_string]⟩⟩, none, false⟩,
   ⟨some 6, .assign (.tmp 10), none, false⟩])
  (.seq (.seq (.reg [⟨some 11, .move (.tmp 5), none, false⟩])
  (.cond (.tmp 11)
   (.seq (.seq (.reg [⟨some 12, .move (.tmp 6), none, false⟩])
   (.cond (.tmp 12)
    (.seq (.reg [⟨some 4, .assign (.const (.int .i64 0)), none, false⟩])
    .ret)
    .skip))
   (.seq (.reg [⟨some 4, .assign (.const (.int .i64 (-1))), none, false⟩])
   .ret))
   .skip))
  (.seq (.seq (.reg [⟨some 13, .move (.tmp 6), none, false⟩])
  (.cond (.tmp 13)
   (.seq (.reg [⟨some 4, .assign (.const (.int .i64 1)), none, false⟩])
   .ret)
   .skip))
  (.seq (.seq (.reg [⟨some 14, .move (.tmp 0), none, false⟩,
   ⟨some 15, .move (.tmp 1), none, false⟩,
   ⟨some 16, .binOp .lss t_string (.tmp 14) (.tmp 15) t_string, none, false⟩])
  (.cond (.tmp 16)
   (.seq (.reg [⟨some 4, .assign (.const (.int .i64 (-1))), none, false⟩])
   .ret)
   .skip))
  (.seq (.seq (.reg [⟨some 17, .move (.tmp 0), none, false⟩,
   ⟨some 18, .move (.tmp 1), none, false⟩,
   ⟨some 19, .binOp .gtr t_string (.tmp 17) (.tmp 18) t_string, none, false⟩])
  (.cond (.tmp 19)
   (.seq (.reg [⟨some 4, .assign (.const (.int .i64 1)), none, false⟩])
   .ret)
   .skip))
  (.seq (.reg [⟨some 4, .assign (.const (.int .i64 0)), none, false⟩])
  .ret))))))))
theorem k_cmp_Compare_string_ : FnOk Tryz.prog f_cmp_Compare_string_ 20 [.tmp 4] q2u := ⟨_, _, Tryz.func158, by kernel_rfl, rfl, Tryz.ntmps158, rfl, by kernel_rfl⟩
def q1g : LC :=
  (.seq (.reg [⟨some 4, .assign (.const (.int .i64 0)), none, false⟩])
  (.seq (.seq (.reg [⟨some 9, .move (.tmp 0), none, false⟩,
   ⟨some 10, .call ⟨.builtin .len, ⟨[(.tmp 9)]⟩, ⟨[t_L_string]⟩⟩, none, false⟩,
   ⟨some 11, .move (.const (.int .i64 0)), none, false⟩])
  (.block 0 (.loop [true, true, false, false, false, false, false, false, false, true, true, true, false, false, false, false, false, false, false, false, false, false, false, false, false, false, false, false, false, false, false, false, false, false, false, false] none
   (.seq (.reg [⟨some 12, .binOp .lss t_int (.tmp 11) (.tmp 10) t_int, none, false⟩])
    (.seq (.cond (.tmp 12)
     .skip
     (.exit 0))
    (.seq (.block 1 (.seq (.reg [⟨some 13, .move (.tmp 11), none, false⟩,
      ⟨some 14, .indexAddr t_L_string (.tmp 9) (.tmp 11), none, false⟩,
      ⟨some 15, .load t_string (.tmp 14), none, false⟩,
      ⟨some 5, .assign (.tmp 13), none, false⟩,
      ⟨some 6, .assign (.tmp 15), none, false⟩])
     (.seq (.seq (.reg [⟨some 16, .move (.tmp 5), none, false⟩,
      ⟨some 17, .move (.tmp 1), none, false⟩,
      ⟨some 18, .call ⟨.builtin .len, ⟨[(.tmp 17)]⟩, ⟨[t_L_string]⟩⟩, none, false⟩,
      ⟨some 19, .binOp .geq t_int (.tmp 16) (.tmp 18) t_int, none, false⟩])
     (.cond (.tmp 19)
      (.seq (.reg [⟨some 4, .assign (.const (.int .i64 1)), none, false⟩])
      .ret)
      .skip))
     (.seq (.reg [⟨some 20, .move (.tmp 1), none, false⟩,
      ⟨some 21, .move (.tmp 5), none, false⟩,
      ⟨some 22, .indexAddr t_L_string (.tmp 20) (.tmp 21), none, false⟩,
      ⟨some 23, .load t_string (.tmp 22), none, false⟩,
      ⟨some 7, .assign (.tmp 23), none, false⟩])
     (.seq (.reg [⟨some 24, .move (.tmp 6), none, false⟩,
      ⟨some 25, .move (.tmp 7), none, false⟩,
      ⟨some 26, .call ⟨.value (.func f_cmp_Compare_string_), ⟨[(.tmp 24), (.tmp 25)]⟩, ⟨[t_string, t_string]⟩⟩, none, false⟩,
      ⟨some 8, .assign (.tmp 26), none, false⟩])
     (.seq (.reg [⟨some 27, .move (.tmp 8), none, false⟩,
      ⟨some 28, .binOp .neq t_int (.tmp 27) (.const (.int .i64 0)) t_int, none, false⟩])
     (.cond (.tmp 28)
      (.seq (.reg [⟨some 29, .move (.tmp 8), none, false⟩,
       ⟨some 4, .assign (.tmp 29), none, false⟩])
      .ret)
      .skip)))))))
    (.reg [⟨some 30, .binOp .add t_int (.tmp 11) (.const (.int .i64 1)) t_int, none, false⟩,
     ⟨some 11, .move (.tmp 30), none, false⟩])))))))
  (.seq (.seq (.reg [⟨some 31, .move (.tmp 0), none, false⟩,
   ⟨some 32, .call ⟨.builtin .len, ⟨[(.tmp 31)]⟩, ⟨[t_L_string]⟩⟩, none, false⟩,
   ⟨some 33, .move (.tmp 1), none, false⟩,
   ⟨some 34, .call ⟨.builtin .len, ⟨[(.tmp 33)]⟩, ⟨[t_L_string]⟩⟩, none, false⟩,
   ⟨some 35, .binOp .lss t_int (.tmp 32) (.tmp 34) t_int, none, false⟩])
  (.cond (.tmp 35)
   (.seq (.reg [⟨some 4, .assign (.const (.int .i64 (-1))), none, false⟩])
   .ret)
   .skip))
  (.seq (.reg [⟨some 4, .assign (.const (.int .i64 0)), none, false⟩])
  .ret))))
theorem k_slices_Compare_L_string_string_ : FnOk Tryz.prog f_slices_Compare_L_string_string_ 36 [.tmp 4] q1g := ⟨_, _, Tryz.func159, by kernel_rfl, rfl, Tryz.ntmps159, rfl, by kernel_rfl⟩
def qaa : LC :=
  (.seq (.reg [⟨some 2, .assign (.const (.slice none 0 0)), none, false⟩])
  (.seq (.reg [⟨some 3, .alloc t_L_string, none, false⟩])
  (.seq (.seq (.reg [⟨some 5, .move (.tmp 0), none, false⟩,
   ⟨some 6, .indexAddr t_api_Val (.tmp 5) (.const (.int .i64 0)), none, false⟩,
   ⟨some 7, .fieldAddr t_api_Node (.tmp 6) 0, none, false⟩,
   ⟨some 8, .load t_int (.tmp 7), none, false⟩,
   ⟨some 9, .binOp .eql t_int (.tmp 8) (.const (.int .i64 6)) t_int, none, false⟩])
  (.cond (.tmp 9)
   (.seq (.reg [⟨some 10, .move (.tmp 0), none, false⟩,
    ⟨some 11, .call ⟨.value (.func f_val_each), ⟨[(.tmp 10)]⟩, ⟨[t_api_Val]⟩⟩, none, false⟩])
   (.block 0 (.rf (.tmp 11) [12, 13] none
     (.reg [⟨some 4, .assign (.tmp 12), none, false⟩])
     (.block 1 (.reg [⟨some 14, .load t_L_string (.tmp 3), none, false⟩,
       ⟨some 15, .move (.tmp 4), none, false⟩,
       ⟨some 16, .buildSlice t_L_string 1 ⟨[(0, (.tmp 15))]⟩, none, false⟩,
       ⟨some 17, .call ⟨.builtin .append, ⟨[(.tmp 14), (.tmp 16)]⟩, ⟨[t_L_string, t_L_string]⟩⟩, none, false⟩,
       ⟨none, .store t_L_string (.tmp 3) (.tmp 17), none, false⟩])))))
   .skip))
  (.seq (.reg [⟨some 18, .load t_L_string (.tmp 3), none, false⟩,
   ⟨some 2, .assign (.tmp 18), none, false⟩])
  .ret))))
theorem k_val_Names : FnOk Tryz.prog f_val_Names 19 [.tmp 2] qaa := ⟨_, _, Tryz.func44, by kernel_rfl, rfl, Tryz.ntmps44, rfl, by kernel_rfl⟩
def q0l : LC :=
  (.seq (.reg [⟨some 6, .assign (.const (.int .i64 0)), none, false⟩])
  (.seq (.seq (.reg [⟨some 11, .move (.tmp 0), none, false⟩,
   ⟨some 12, .call ⟨.builtin .len, ⟨[(.tmp 11)]⟩, ⟨[t_L_api_Val]⟩⟩, none, false⟩,
   ⟨some 13, .move (.const (.int .i64 0)), none, false⟩])
  (.block 0 (.loop [true, true, true, false, false, false, false, false, false, false, false, true, true, true, false, false, false, false, false, false, false, false, false, false, false, false, false, false, false, false, false, false, false, false, false, false, false, false, false] none
   (.seq (.reg [⟨some 14, .binOp .lss t_int (.tmp 13) (.tmp 12) t_int, none, false⟩])
    (.seq (.cond (.tmp 14)
     .skip
     (.exit 0))
    (.seq (.block 1 (.seq (.reg [⟨some 15, .move (.tmp 13), none, false⟩,
      ⟨some 16, .indexAddr t_L_api_Val (.tmp 11) (.tmp 13), none, false⟩,
      ⟨some 17, .load t_api_Val (.tmp 16), none, false⟩,
      ⟨some 7, .assign (.tmp 15), none, false⟩,
      ⟨some 8, .assign (.tmp 17), none, false⟩])
     (.seq (.seq (.reg [⟨some 18, .move (.tmp 7), none, false⟩,
      ⟨some 19, .move (.tmp 1), none, false⟩,
      ⟨some 20, .call ⟨.builtin .len, ⟨[(.tmp 19)]⟩, ⟨[t_L_api_Val]⟩⟩, none, false⟩,
      ⟨some 21, .binOp .geq t_int (.tmp 18) (.tmp 20) t_int, none, false⟩])
     (.cond (.tmp 21)
      (.seq (.reg [⟨some 6, .assign (.const (.int .i64 1)), none, false⟩])
      .ret)
      .skip))
     (.seq (.reg [⟨some 22, .move (.tmp 1), none, false⟩,
      ⟨some 23, .move (.tmp 7), none, false⟩,
      ⟨some 24, .indexAddr t_L_api_Val (.tmp 22) (.tmp 23), none, false⟩,
      ⟨some 25, .load t_api_Val (.tmp 24), none, false⟩,
      ⟨some 9, .assign (.tmp 25), none, false⟩])
     (.seq (.reg [⟨some 26, .move (.tmp 2), none, false⟩,
      ⟨some 27, .move (.tmp 8), none, false⟩,
      ⟨some 28, .move (.tmp 9), none, false⟩,
      ⟨some 29, .call ⟨.value (.tmp 26), ⟨[(.tmp 27), (.tmp 28)]⟩, ⟨[t_api_Val, t_api_Val]⟩⟩, none, false⟩,
      ⟨some 10, .assign (.tmp 29), none, false⟩])
     (.seq (.reg [⟨some 30, .move (.tmp 10), none, false⟩,
      ⟨some 31, .binOp .neq t_int (.tmp 30) (.const (.int .i64 0)) t_int, none, false⟩])
     (.cond (.tmp 31)
      (.seq (.reg [⟨some 32, .move (.tmp 10), none, false⟩,
       ⟨some 6, .assign (.tmp 32), none, false⟩])
      .ret)
      .skip)))))))
    (.reg [⟨some 33, .binOp .add t_int (.tmp 13) (.const (.int .i64 1)) t_int, none, false⟩,
     ⟨some 13, .move (.tmp 33), none, false⟩])))))))
  (.seq (.seq (.reg [⟨some 34, .move (.tmp 0), none, false⟩,
   ⟨some 35, .call ⟨.builtin .len, ⟨[(.tmp 34)]⟩, ⟨[t_L_api_Val]⟩⟩, none, false⟩,
   ⟨some 36, .move (.tmp 1), none, false⟩,
   ⟨some 37, .call ⟨.builtin .len, ⟨[(.tmp 36)]⟩, ⟨[t_L_api_Val]⟩⟩, none, false⟩,
   ⟨some 38, .binOp .lss t_int (.tmp 35) (.tmp 37) t_int, none, false⟩])
  (.cond (.tmp 38)
   (.seq (.reg [⟨some 6, .assign (.const (.int .i64 (-1))), none, false⟩])
   .ret)
   .skip))
  (.seq (.reg [⟨some 6, .assign (.const (.int .i64 0)), none, false⟩])
  .ret))))
theorem k_slices_CompareFunc_L_api_Val_L_api_Val_api_Val_api_Val_ : FnOk Tryz.prog f_slices_CompareFunc_L_api_Val_L_api_Val_api_Val_api_Val_ 39 [.tmp 6] q0l := ⟨_, _, Tryz.func160, by kernel_rfl, rfl, Tryz.ntmps160, rfl, by kernel_rfl⟩
def qab : LC :=
  (.seq (.reg [⟨some 2, .assign (.const (.slice none 0 0)), none, false⟩])
  (.seq (.reg [⟨some 3, .alloc t_L_api_Val, none, false⟩])
  (.seq (.seq (.reg [⟨some 6, .move (.tmp 0), none, false⟩,
   ⟨some 7, .call ⟨.value (.func f_val_each), ⟨[(.tmp 6)]⟩, ⟨[t_api_Val]⟩⟩, none, false⟩])
  (.block 0 (.rf (.tmp 7) [8, 9] none
    (.reg [⟨some 5, .assign (.tmp 9), none, false⟩])
    (.block 1 (.reg [⟨some 10, .load t_L_api_Val (.tmp 3), none, false⟩,
      ⟨some 11, .move (.tmp 5), none, false⟩,
      ⟨some 12, .buildSlice t_L_api_Val 1 ⟨[(0, (.tmp 11))]⟩, none, false⟩,
      ⟨some 13, .call ⟨.builtin .append, ⟨[(.tmp 10), (.tmp 12)]⟩, ⟨[t_L_api_Val, t_L_api_Val]⟩⟩, none, false⟩,
      ⟨none, .store t_L_api_Val (.tmp 3) (.tmp 13), none, false⟩])))))
  (.seq (.reg [⟨some 14, .load t_L_api_Val (.tmp 3), none, false⟩,
   ⟨some 2, .assign (.tmp 14), none, false⟩])
  .ret))))
theorem k_val_Parts : FnOk Tryz.prog f_val_Parts 15 [.tmp 2] qab := ⟨_, _, Tryz.func99, by kernel_rfl, rfl, Tryz.ntmps99, rfl, by kernel_rfl⟩
def q4f : LC :=
  (.seq (.reg [⟨some 4, .assign (.const (.int .i64 0)), none, false⟩])
  (.seq (.seq (.reg [⟨some 5, .move (.tmp 1), none, false⟩])
  (.cond (.tmp 5)
   (.seq (.reg [⟨some 4, .assign (.const (.int .i64 0)), none, false⟩])
   .ret)
   .skip))
  (.seq (.seq (.reg [⟨some 6, .move (.tmp 0), none, false⟩])
  (.cond (.tmp 6)
   (.seq (.reg [⟨some 4, .assign (.const (.int .i64 (-1))), none, false⟩])
   .ret)
   .skip))
  (.seq (.reg [⟨some 4, .assign (.const (.int .i64 1)), none, false⟩])
  .ret))))
theorem k_louperef05_sign : FnOk Tryz.prog f_louperef05_sign 7 [.tmp 4] q4f := ⟨_, _, Tryz.func161, by kernel_rfl, rfl, Tryz.ntmps161, rfl, by kernel_rfl⟩
def q53 : LC :=
  (.seq (.reg [⟨some 2, .box t_api_Node (.tmp 0), none, false⟩,
   ⟨some 3, .box t_api_Node (.tmp 1), none, false⟩,
   ⟨some 4, .assign (.const (.int .i64 0)), none, false⟩])
  (.seq (.weak (.reg [⟨some 5, .assign (.const (.int .i64 1)), none, false⟩]))
  (.seq (.seq (.reg [⟨some 10, .fieldAddr t_api_Node (.tmp 2) 4, none, false⟩,
   ⟨some 11, .load t_bool (.tmp 10), none, false⟩])
  (.cond (.tmp 11)
   (.reg [⟨some 5, .assign (.const (.int .i64 (-1))), none, false⟩])
   .skip))
  (.seq (.seq (.reg [⟨some 12, .fieldAddr t_api_Node (.tmp 2) 4, none, false⟩,
   ⟨some 13, .load t_bool (.tmp 12), none, false⟩,
   ⟨some 14, .fieldAddr t_api_Node (.tmp 3) 4, none, false⟩,
   ⟨some 15, .load t_bool (.tmp 14), none, false⟩,
   ⟨some 16, .binOp .neq t_bool (.tmp 13) (.tmp 15) t_bool, none, false⟩])
  (.cond (.tmp 16)
   (.seq (.reg [⟨some 17, .move (.tmp 5), none, false⟩,
    ⟨some 4, .assign (.tmp 17), none, false⟩])
   .ret)
   .skip))
  (.seq (.reg [⟨some 18, .fieldAddr t_api_Node (.tmp 2) 3, none, false⟩,
   ⟨some 19, .load t_string (.tmp 18), none, false⟩,
   ⟨some 20, .call ⟨.builtin .len, ⟨[(.tmp 19)]⟩, ⟨[t_string]⟩⟩, none, false⟩,
   ⟨some 21, .fieldAddr t_api_Node (.tmp 2) 5, none, false⟩,
   ⟨some 22, .load t_int (.tmp 21), none, false⟩,
   ⟨some 23, .binOp .add t_int (.tmp 20) (.tmp 22) t_int, none, false⟩,
   ⟨some 24, .fieldAddr t_api_Node (.tmp 3) 3, none, false⟩,
   ⟨some 25, .load t_string (.tmp 24), none, false⟩,
   ⟨some 26, .call ⟨.builtin .len, ⟨[(.tmp 25)]⟩, ⟨[t_string]⟩⟩, none, false⟩,
   ⟨some 27, .fieldAddr t_api_Node (.tmp 3) 5, none, false⟩,
   ⟨some 28, .load t_int (.tmp 27), none, false⟩,
   ⟨some 29, .binOp .add t_int (.tmp 26) (.tmp 28) t_int, none, false⟩,
   ⟨some 30, .call ⟨.builtin .max, ⟨[(.tmp 23), (.tmp 29)]⟩, ⟨[t_int, t_int]⟩⟩, none, false⟩,
   ⟨some 6, .assign (.tmp 30), none, false⟩])
  (.seq (.seq (.reg [⟨some 31, .move (.tmp 6), none, false⟩,
   ⟨some 7, .assign (.tmp 31), none, false⟩])
  (.block 0 (.loop [false, false, true, true, false, true, false, true, false, false, false, false, false, false, false, false, false, false, false, false, false, false, false, false, false, false, false, false, false, false, false, false, false, false, false, false, false, false, false, false, false, false, false, false, false, false, false, false, false, false, false, false, false, false, false, false] none
   (.seq (.seq (.reg [⟨some 32, .move (.tmp 7), none, false⟩,
     ⟨some 33, .fieldAddr t_api_Node (.tmp 2) 5, none, false⟩,
     ⟨some 34, .load t_int (.tmp 33), none, false⟩,
     ⟨some 35, .fieldAddr t_api_Node (.tmp 3) 5, none, false⟩,
     ⟨some 36, .load t_int (.tmp 35), none, false⟩,
     ⟨some 37, .call ⟨.builtin .min, ⟨[(.tmp 34), (.tmp 36)]⟩, ⟨[t_int, t_int]⟩⟩, none, false⟩,
     ⟨some 38, .binOp .geq t_int (.tmp 32) (.tmp 37) t_int, none, false⟩])
    (.cond (.tmp 38)
     .skip
     (.exit 0)))
    (.seq (.block 1 (.seq (.draw [⟨some 41, .load t_api_Node (.tmp 2), none, false⟩,
      ⟨some 42, .move (.tmp 7), none, false⟩,
      ⟨some 43, .call ⟨.value (.func f_louperef01_at), ⟨[(.tmp 41), (.tmp 42)]⟩, ⟨[t_api_Node, t_int]⟩⟩, none, false⟩,
      ⟨some 44, .load t_api_Node (.tmp 3), none, false⟩,
      ⟨some 45, .move (.tmp 7), none, false⟩,
      ⟨some 46, .call ⟨.value (.func f_louperef01_at), ⟨[(.tmp 44), (.tmp 45)]⟩, ⟨[t_api_Node, t_int]⟩⟩, none, false⟩,
      ⟨some 8, .assign (.tmp 43), none, false⟩,
      ⟨some 9, .assign (.tmp 46), none, false⟩]
     [0, 1, 0, 7, 15, 0, 0, 0])
     (.seq (.seq (.reg [⟨some 47, .move (.tmp 8), none, false⟩,
      ⟨some 48, .move (.tmp 9), none, false⟩,
      ⟨some 49, .binOp .lss t_int (.tmp 47) (.tmp 48) t_int, none, false⟩])
     (.cond (.tmp 49)
      (.seq (.reg [⟨some 50, .move (.tmp 5), none, false⟩,
       ⟨some 51, .unOp .neg t_int (.tmp 50), none, false⟩,
       ⟨some 4, .assign (.tmp 51), none, false⟩])
      .ret)
      .skip))
     (.seq (.reg [⟨some 52, .move (.tmp 8), none, false⟩,
      ⟨some 53, .move (.tmp 9), none, false⟩,
      ⟨some 54, .binOp .gtr t_int (.tmp 52) (.tmp 53) t_int, none, false⟩])
     (.cond (.tmp 54)
      (.seq (.reg [⟨some 55, .move (.tmp 5), none, false⟩,
       ⟨some 4, .assign (.tmp 55), none, false⟩])
      .ret)
      .skip)))))
    (.reg [⟨some 39, .move (.tmp 7), none, false⟩,
     ⟨some 40, .binOp .sub t_int (.tmp 39) (.const (.int .i64 1)) t_int, none, false⟩,
     ⟨some 7, .assign (.tmp 40), none, false⟩]))))))
  (.seq (.reg [⟨some 4, .assign (.const (.int .i64 0)), none, false⟩])
  .ret)))))))
theorem k_louperef01_Cmp : FnOk Tryz.prog f_louperef01_Cmp 56 [.tmp 4] q53 := ⟨_, _, Tryz.func162, by kernel_rfl, rfl, Tryz.ntmps162, rfl, by kernel_rfl⟩
def q4g : LC :=
  (.seq (.reg [⟨some 4, .assign (.const (.int .i64 0)), none, false⟩])
  (.seq (.seq (.reg [⟨some 5, .assign (.const (.int .i64 0)), none, false⟩])
  (.block 0 (.loop [true, true, false, false, false, true, false, false, false, false, false, false, false, false, false, false, false, false, false, false, false, false, false, false, false, false, false, false, false, false, false, false, false, false, false, false, false, false, false, false, false, false] none
   (.seq (.seq (.reg [⟨some 7, .move (.tmp 5), none, false⟩,
     ⟨some 8, .move (.tmp 0), none, false⟩,
     ⟨some 9, .call ⟨.builtin .len, ⟨[(.tmp 8)]⟩, ⟨[t_L_api_Val]⟩⟩, none, false⟩,
     ⟨some 10, .binOp .lss t_int (.tmp 7) (.tmp 9) t_int, none, false⟩,
     ⟨some 11, .move (.tmp 10), none, false⟩,
     ⟨some 12, .move (.tmp 5), some (some 11, true), false⟩,
     ⟨some 13, .move (.tmp 1), some (some 11, true), false⟩,
     ⟨some 14, .call ⟨.builtin .len, ⟨[(.tmp 13)]⟩, ⟨[t_L_api_Val]⟩⟩, some (some 11, true), false⟩,
     ⟨some 15, .binOp .lss t_int (.tmp 12) (.tmp 14) t_int, some (some 11, true), false⟩,
     ⟨some 16, .pick (.tmp 11) (.tmp 15) (.const (.bool false)), none, false⟩])
    (.cond (.tmp 16)
     .skip
     (.exit 0)))
    (.seq (.block 1 (.seq (.draw [⟨some 19, .move (.tmp 0), none, false⟩,
      ⟨some 20, .move (.tmp 5), none, false⟩,
      ⟨some 21, .indexAddr t_L_api_Val (.tmp 19) (.tmp 20), none, false⟩,
      ⟨some 22, .load t_api_Val (.tmp 21), none, false⟩,
      ⟨some 23, .move (.tmp 1), none, false⟩,
      ⟨some 24, .move (.tmp 5), none, false⟩,
      ⟨some 25, .indexAddr t_L_api_Val (.tmp 23) (.tmp 24), none, false⟩,
      ⟨some 26, .load t_api_Val (.tmp 25), none, false⟩,
      ⟨some 27, .call ⟨.value (.func f_louperef05_Cmp), ⟨[(.tmp 22), (.tmp 26)]⟩, ⟨[t_api_Val, t_api_Val]⟩⟩, none, false⟩,
      ⟨some 6, .assign (.tmp 27), none, false⟩]
     [0, 1, 0, 0, 15, 31, 15, 15, 0, 0])
     (.seq (.reg [⟨some 28, .move (.tmp 6), none, false⟩,
      ⟨some 29, .binOp .neq t_int (.tmp 28) (.const (.int .i64 0)) t_int, none, false⟩])
     (.cond (.tmp 29)
      (.seq (.reg [⟨some 30, .move (.tmp 6), none, false⟩,
       ⟨some 4, .assign (.tmp 30), none, false⟩])
      .ret)
      .skip))))
    (.reg [⟨some 17, .move (.tmp 5), none, false⟩,
     ⟨some 18, .binOp .add t_int (.tmp 17) (.const (.int .i64 1)) t_int, none, false⟩,
     ⟨some 5, .assign (.tmp 18), none, false⟩]))))))
  (.seq (.reg [⟨some 31, .move (.tmp 0), none, false⟩,
   ⟨some 32, .call ⟨.builtin .len, ⟨[(.tmp 31)]⟩, ⟨[t_L_api_Val]⟩⟩, none, false⟩,
   ⟨some 33, .move (.tmp 1), none, false⟩,
   ⟨some 34, .call ⟨.builtin .len, ⟨[(.tmp 33)]⟩, ⟨[t_L_api_Val]⟩⟩, none, false⟩,
   ⟨some 35, .binOp .lss t_int (.tmp 32) (.tmp 34) t_int, none, false⟩,
   ⟨some 36, .move (.tmp 0), none, false⟩,
   ⟨some 37, .call ⟨.builtin .len, ⟨[(.tmp 36)]⟩, ⟨[t_L_api_Val]⟩⟩, none, false⟩,
   ⟨some 38, .move (.tmp 1), none, false⟩,
   ⟨some 39, .call ⟨.builtin .len, ⟨[(.tmp 38)]⟩, ⟨[t_L_api_Val]⟩⟩, none, false⟩,
   ⟨some 40, .binOp .eql t_int (.tmp 37) (.tmp 39) t_int, none, false⟩,
   ⟨some 41, .call ⟨.value (.func f_louperef05_sign), ⟨[(.tmp 35), (.tmp 40)]⟩, ⟨[t_bool, t_bool]⟩⟩, none, false⟩,
   ⟨some 4, .assign (.tmp 41), none, false⟩])
  .ret)))
theorem k_louperef05_rows : FnOk Tryz.prog f_louperef05_rows 42 [.tmp 4] q4g := ⟨_, _, Tryz.func163, by kernel_rfl, rfl, Tryz.ntmps163, rfl, by kernel_rfl⟩
def q3v : LC :=
  (.seq (.reg [⟨some 2, .assign (.const (.slice none 0 0)), none, false⟩])
  (.seq (.reg [⟨some 7, .buildSlice t_L_api_Val 0 ⟨[]⟩, none, true⟩,
   ⟨some 3, .assign (.tmp 7), none, false⟩])
  (.seq (.reg [⟨some 4, .assign (.const (.int .i64 1)), none, false⟩])
  (.seq (.seq (.reg [⟨some 5, .assign (.const (.int .i64 0)), none, false⟩])
  (.block 0 (.loop [true, false, false, true, true, true, false, false, false, false, false, false, false, false, false, false, false, false, false, false, false, false, false, false, false, false, false, false] none
   (.seq (.seq (.reg [⟨some 8, .move (.tmp 5), none, false⟩,
     ⟨some 9, .move (.tmp 0), none, false⟩,
     ⟨some 10, .indexAddr t_api_Val (.tmp 9) (.const (.int .i64 0)), none, false⟩,
     ⟨some 11, .fieldAddr t_api_Node (.tmp 10) 1, none, false⟩,
     ⟨some 12, .load t_int (.tmp 11), none, false⟩,
     ⟨some 13, .binOp .lss t_int (.tmp 8) (.tmp 12) t_int, none, false⟩])
    (.cond (.tmp 13)
     .skip
     (.exit 0)))
    (.seq (.block 1 (.seq (.reg [⟨some 16, .move (.tmp 0), none, false⟩,
      ⟨some 17, .move (.tmp 4), none, false⟩,
      ⟨some 18, .call ⟨.value (.func f_louperef02_Next), ⟨[(.tmp 16), (.tmp 17)]⟩, ⟨[t_api_Val, t_int]⟩⟩, none, false⟩,
      ⟨some 6, .assign (.tmp 18), none, false⟩])
     (.seq (.reg [⟨some 19, .move (.tmp 3), none, false⟩,
      ⟨some 20, .move (.tmp 0), none, false⟩,
      ⟨some 21, .move (.tmp 4), none, false⟩,
      ⟨some 22, .move (.tmp 6), none, false⟩,
      ⟨some 23, .call ⟨.value (.func f_louperef02_own), ⟨[(.tmp 20), (.tmp 21), (.tmp 22)]⟩, ⟨[t_api_Val, t_int, t_int]⟩⟩, none, false⟩,
      ⟨some 24, .buildSlice t_L_api_Val 1 ⟨[(0, (.tmp 23))]⟩, none, false⟩,
      ⟨some 25, .call ⟨.builtin .append, ⟨[(.tmp 19), (.tmp 24)]⟩, ⟨[t_L_api_Val, t_L_api_Val]⟩⟩, none, false⟩,
      ⟨some 3, .assign (.tmp 25), none, false⟩])
     (.reg [⟨some 26, .move (.tmp 6), none, false⟩,
      ⟨some 4, .assign (.tmp 26), none, false⟩]))))
    (.reg [⟨some 14, .move (.tmp 5), none, false⟩,
     ⟨some 15, .binOp .add t_int (.tmp 14) (.const (.int .i64 1)) t_int, none, false⟩,
     ⟨some 5, .assign (.tmp 15), none, false⟩]))))))
  (.seq (.reg [⟨some 27, .move (.tmp 3), none, false⟩,
   ⟨some 2, .assign (.tmp 27), none, false⟩])
  .ret)))))
theorem k_louperef02_Parts : FnOk Tryz.prog f_louperef02_Parts 28 [.tmp 2] q3v := ⟨_, _, Tryz.func97, by kernel_rfl, rfl, Tryz.ntmps97, rfl, by kernel_rfl⟩
def q3w : LC :=
  (.seq (.reg [⟨some 4, .assign (.const (.int .i64 0)), none, false⟩])
  (.seq (.seq (.reg [⟨some 5, .assign (.const (.int .i64 0)), none, false⟩])
  (.block 0 (.loop [true, true, false, false, false, true, false, false, false, false, false, false, false, false, false, false, false, false, false, false, false, false, false, false, false, false, false, false, false, false, false, false, false, false, false, false, false, false, false, false, false, false, false, false, false, false, false, false] none
   (.seq (.seq (.reg [⟨some 6, .move (.tmp 5), none, false⟩,
     ⟨some 7, .move (.tmp 0), none, false⟩,
     ⟨some 8, .call ⟨.builtin .len, ⟨[(.tmp 7)]⟩, ⟨[t_L_string]⟩⟩, none, false⟩,
     ⟨some 9, .binOp .lss t_int (.tmp 6) (.tmp 8) t_int, none, false⟩,
     ⟨some 10, .move (.tmp 9), none, false⟩,
     ⟨some 11, .move (.tmp 5), some (some 10, true), false⟩,
     ⟨some 12, .move (.tmp 1), some (some 10, true), false⟩,
     ⟨some 13, .call ⟨.builtin .len, ⟨[(.tmp 12)]⟩, ⟨[t_L_string]⟩⟩, some (some 10, true), false⟩,
     ⟨some 14, .binOp .lss t_int (.tmp 11) (.tmp 13) t_int, some (some 10, true), false⟩,
     ⟨some 15, .pick (.tmp 10) (.tmp 14) (.const (.bool false)), none, false⟩])
    (.cond (.tmp 15)
     .skip
     (.exit 0)))
    (.seq (.block 1 (.seq (.draw [⟨some 18, .move (.tmp 0), none, false⟩,
      ⟨some 19, .move (.tmp 5), none, false⟩,
      ⟨some 20, .indexAddr t_L_string (.tmp 18) (.tmp 19), none, false⟩,
      ⟨some 21, .load t_string (.tmp 20), none, false⟩,
      ⟨some 22, .move (.tmp 1), none, false⟩,
      ⟨some 23, .move (.tmp 5), none, false⟩,
      ⟨some 24, .indexAddr t_L_string (.tmp 22) (.tmp 23), none, false⟩,
      ⟨some 25, .load t_string (.tmp 24), none, false⟩,
      ⟨some 26, .binOp .neq t_string (.tmp 21) (.tmp 25) t_string, none, false⟩]
     [0, 1, 0, 0, 15, 31, 15, 15, 0])
     (.cond (.tmp 26)
      (.seq (.draw [⟨some 27, .move (.tmp 0), none, false⟩,
       ⟨some 28, .move (.tmp 5), none, false⟩,
       ⟨some 29, .indexAddr t_L_string (.tmp 27) (.tmp 28), none, false⟩,
       ⟨some 30, .load t_string (.tmp 29), none, false⟩,
       ⟨some 31, .move (.tmp 1), none, false⟩,
       ⟨some 32, .move (.tmp 5), none, false⟩,
       ⟨some 33, .indexAddr t_L_string (.tmp 31) (.tmp 32), none, false⟩,
       ⟨some 34, .load t_string (.tmp 33), none, false⟩,
       ⟨some 35, .binOp .lss t_string (.tmp 30) (.tmp 34) t_string, none, false⟩,
       ⟨some 36, .call ⟨.value (.func f_louperef05_sign), ⟨[(.tmp 35), (.const (.bool false))]⟩, ⟨[t_bool, t_bool]⟩⟩, none, false⟩,
       ⟨some 4, .assign (.tmp 36), none, false⟩]
      [0, 1, 0, 0, 15, 31, 15, 15, 0, 0, 0])
      .ret)
      .skip)))
    (.reg [⟨some 16, .move (.tmp 5), none, false⟩,
     ⟨some 17, .binOp .add t_int (.tmp 16) (.const (.int .i64 1)) t_int, none, false⟩,
     ⟨some 5, .assign (.tmp 17), none, false⟩]))))))
  (.seq (.reg [⟨some 37, .move (.tmp 0), none, false⟩,
   ⟨some 38, .call ⟨.builtin .len, ⟨[(.tmp 37)]⟩, ⟨[t_L_string]⟩⟩, none, false⟩,
   ⟨some 39, .move (.tmp 1), none, false⟩,
   ⟨some 40, .call ⟨.builtin .len, ⟨[(.tmp 39)]⟩, ⟨[t_L_string]⟩⟩, none, false⟩,
   ⟨some 41, .binOp .lss t_int (.tmp 38) (.tmp 40) t_int, none, false⟩,
   ⟨some 42, .move (.tmp 0), none, false⟩,
   ⟨some 43, .call ⟨.builtin .len, ⟨[(.tmp 42)]⟩, ⟨[t_L_string]⟩⟩, none, false⟩,
   ⟨some 44, .move (.tmp 1), none, false⟩,
   ⟨some 45, .call ⟨.builtin .len, ⟨[(.tmp 44)]⟩, ⟨[t_L_string]⟩⟩, none, false⟩,
   ⟨some 46, .binOp .eql t_int (.tmp 43) (.tmp 45) t_int, none, false⟩,
   ⟨some 47, .call ⟨.value (.func f_louperef05_sign), ⟨[(.tmp 41), (.tmp 46)]⟩, ⟨[t_bool, t_bool]⟩⟩, none, false⟩,
   ⟨some 4, .assign (.tmp 47), none, false⟩])
  .ret)))
theorem k_louperef05_names : FnOk Tryz.prog f_louperef05_names 48 [.tmp 4] q3w := ⟨_, _, Tryz.func164, by kernel_rfl, rfl, Tryz.ntmps164, rfl, by kernel_rfl⟩
def q3x : LC :=
  (.seq (.reg [⟨some 2, .assign (.const (.slice none 0 0)), none, false⟩])
  (.seq (.reg [⟨some 6, .buildSlice t_L_string 0 ⟨[]⟩, none, true⟩,
   ⟨some 3, .assign (.tmp 6), none, false⟩])
  (.seq (.reg [⟨some 4, .assign (.const (.int .i64 1)), none, false⟩])
  (.seq (.seq (.reg [⟨some 5, .assign (.const (.int .i64 0)), none, false⟩])
  (.block 0 (.loop [true, false, false, true, true, true, false, false, false, false, false, false, false, false, false, false, false, false, false, false, false, false, false, false, false, false, false, false, false, false, false, false, false, false] none
   (.seq (.seq (.reg [⟨some 7, .move (.tmp 5), none, false⟩,
     ⟨some 8, .move (.tmp 0), none, false⟩,
     ⟨some 9, .indexAddr t_api_Val (.tmp 8) (.const (.int .i64 0)), none, false⟩,
     ⟨some 10, .fieldAddr t_api_Node (.tmp 9) 1, none, false⟩,
     ⟨some 11, .load t_int (.tmp 10), none, false⟩,
     ⟨some 12, .binOp .lss t_int (.tmp 7) (.tmp 11) t_int, none, false⟩,
     ⟨some 13, .move (.tmp 12), none, false⟩,
     ⟨some 14, .move (.tmp 0), some (some 13, true), false⟩,
     ⟨some 15, .indexAddr t_api_Val (.tmp 14) (.const (.int .i64 0)), some (some 13, true), false⟩,
     ⟨some 16, .fieldAddr t_api_Node (.tmp 15) 0, some (some 13, true), false⟩,
     ⟨some 17, .load t_int (.tmp 16), some (some 13, true), false⟩,
     ⟨some 18, .binOp .eql t_int (.tmp 17) (.const (.int .i64 6)) t_int, some (some 13, true), false⟩,
     ⟨some 19, .pick (.tmp 13) (.tmp 18) (.const (.bool false)), none, false⟩])
    (.cond (.tmp 19)
     .skip
     (.exit 0)))
    (.seq (.block 1 (.seq (.reg [⟨some 22, .move (.tmp 3), none, false⟩,
      ⟨some 23, .move (.tmp 0), none, false⟩,
      ⟨some 24, .move (.tmp 4), none, false⟩,
      ⟨some 25, .indexAddr t_api_Val (.tmp 23) (.tmp 24), none, false⟩,
      ⟨some 26, .fieldAddr t_api_Node (.tmp 25) 2, none, false⟩,
      ⟨some 27, .load t_string (.tmp 26), none, false⟩,
      ⟨some 28, .buildSlice t_L_string 1 ⟨[(0, (.tmp 27))]⟩, none, false⟩,
      ⟨some 29, .call ⟨.builtin .append, ⟨[(.tmp 22), (.tmp 28)]⟩, ⟨[t_L_string, t_L_string]⟩⟩, none, false⟩,
      ⟨some 3, .assign (.tmp 29), none, false⟩])
     (.reg [⟨some 30, .move (.tmp 0), none, false⟩,
      ⟨some 31, .move (.tmp 4), none, false⟩,
      ⟨some 32, .call ⟨.value (.func f_louperef02_Next), ⟨[(.tmp 30), (.tmp 31)]⟩, ⟨[t_api_Val, t_int]⟩⟩, none, false⟩,
      ⟨some 4, .assign (.tmp 32), none, false⟩])))
    (.reg [⟨some 20, .move (.tmp 5), none, false⟩,
     ⟨some 21, .binOp .add t_int (.tmp 20) (.const (.int .i64 1)) t_int, none, false⟩,
     ⟨some 5, .assign (.tmp 21), none, false⟩]))))))
  (.seq (.reg [⟨some 33, .move (.tmp 3), none, false⟩,
   ⟨some 2, .assign (.tmp 33), none, false⟩])
  .ret)))))
theorem k_louperef02_Names : FnOk Tryz.prog f_louperef02_Names 34 [.tmp 2] q3x := ⟨_, _, Tryz.func96, by kernel_rfl, rfl, Tryz.ntmps96, rfl, by kernel_rfl⟩
def q0f : LC :=
  (.seq (.reg [⟨some 4, .assign (.const (.int .i64 0)), none, false⟩])
  (.seq (.reg [⟨some 6, .move (.tmp 0), none, false⟩,
   ⟨some 7, .move (.tmp 1), none, false⟩,
   ⟨some 8, .index t_string (.tmp 6) (.tmp 7), none, false⟩,
   ⟨some 5, .assign (.tmp 8), none, false⟩])
  (.seq (.block 0 (.seq (.reg [⟨some 10, .move (.tmp 5), none, false⟩,
    ⟨some 11, .binOp .lss t_uint8 (.tmp 10) (.const (.int .u8 128)) t_uint8, none, false⟩,
    ⟨some 9, .assign (.tmp 11), none, false⟩])
   (.cond (.tmp 9)
    (.seq (.reg [⟨some 4, .assign (.const (.int .i64 1)), none, false⟩])
    .ret)
    (.seq (.reg [⟨some 13, .move (.tmp 5), none, false⟩,
     ⟨some 14, .binOp .geq t_uint8 (.tmp 13) (.const (.int .u8 194)) t_uint8, none, false⟩,
     ⟨some 15, .move (.tmp 14), none, false⟩,
     ⟨some 16, .move (.tmp 5), some (some 15, true), false⟩,
     ⟨some 17, .binOp .lss t_uint8 (.tmp 16) (.const (.int .u8 224)) t_uint8, some (some 15, true), false⟩,
     ⟨some 18, .pick (.tmp 15) (.tmp 17) (.const (.bool false)), none, false⟩,
     ⟨some 19, .move (.tmp 18), none, false⟩,
     ⟨some 20, .move (.tmp 0), some (some 19, true), false⟩,
     ⟨some 21, .move (.tmp 1), some (some 19, true), false⟩,
     ⟨some 22, .binOp .add t_int (.tmp 21) (.const (.int .i64 1)) t_int, some (some 19, true), false⟩,
     ⟨some 23, .call ⟨.value (.func f_louperef02_cont), ⟨[(.tmp 20), (.tmp 22)]⟩, ⟨[t_string, t_int]⟩⟩, some (some 19, true), false⟩,
     ⟨some 24, .pick (.tmp 19) (.tmp 23) (.const (.bool false)), none, false⟩,
     ⟨some 12, .assign (.tmp 24), none, false⟩])
    (.cond (.tmp 12)
     (.seq (.reg [⟨some 4, .assign (.const (.int .i64 2)), none, false⟩])
     .ret)
     (.seq (.reg [⟨some 26, .move (.tmp 5), none, false⟩,
      ⟨some 27, .binOp .geq t_uint8 (.tmp 26) (.const (.int .u8 224)) t_uint8, none, false⟩,
      ⟨some 28, .move (.tmp 27), none, false⟩,
      ⟨some 29, .move (.tmp 5), some (some 28, true), false⟩,
      ⟨some 30, .binOp .lss t_uint8 (.tmp 29) (.const (.int .u8 240)) t_uint8, some (some 28, true), false⟩,
      ⟨some 31, .pick (.tmp 28) (.tmp 30) (.const (.bool false)), none, false⟩,
      ⟨some 32, .move (.tmp 31), none, false⟩,
      ⟨some 33, .move (.tmp 0), some (some 32, true), false⟩,
      ⟨some 34, .move (.tmp 1), some (some 32, true), false⟩,
      ⟨some 35, .binOp .add t_int (.tmp 34) (.const (.int .i64 1)) t_int, some (some 32, true), false⟩,
      ⟨some 36, .call ⟨.value (.func f_louperef02_cont), ⟨[(.tmp 33), (.tmp 35)]⟩, ⟨[t_string, t_int]⟩⟩, some (some 32, true), false⟩,
      ⟨some 37, .pick (.tmp 32) (.tmp 36) (.const (.bool false)), none, false⟩,
      ⟨some 38, .move (.tmp 37), none, false⟩,
      ⟨some 39, .move (.tmp 0), some (some 38, true), false⟩,
      ⟨some 40, .move (.tmp 1), some (some 38, true), false⟩,
      ⟨some 41, .binOp .add t_int (.tmp 40) (.const (.int .i64 2)) t_int, some (some 38, true), false⟩,
      ⟨some 42, .call ⟨.value (.func f_louperef02_cont), ⟨[(.tmp 39), (.tmp 41)]⟩, ⟨[t_string, t_int]⟩⟩, some (some 38, true), false⟩,
      ⟨some 43, .pick (.tmp 38) (.tmp 42) (.const (.bool false)), none, false⟩,
      ⟨some 25, .assign (.tmp 43), none, false⟩])
     (.cond (.tmp 25)
      (.seq (.seq (.reg [⟨some 44, .move (.tmp 5), none, false⟩,
       ⟨some 45, .binOp .eql t_uint8 (.tmp 44) (.const (.int .u8 224)) t_uint8, none, false⟩,
       ⟨some 46, .move (.tmp 45), none, false⟩,
       ⟨some 47, .move (.tmp 0), some (some 46, true), false⟩,
       ⟨some 48, .move (.tmp 1), some (some 46, true), false⟩,
       ⟨some 49, .binOp .add t_int (.tmp 48) (.const (.int .i64 1)) t_int, some (some 46, true), false⟩,
       ⟨some 50, .index t_string (.tmp 47) (.tmp 49), some (some 46, true), false⟩,
       ⟨some 51, .binOp .lss t_uint8 (.tmp 50) (.const (.int .u8 160)) t_uint8, some (some 46, true), false⟩,
       ⟨some 52, .pick (.tmp 46) (.tmp 51) (.const (.bool false)), none, false⟩,
       ⟨some 53, .move (.tmp 52), none, false⟩,
       ⟨some 54, .move (.tmp 5), some (some 53, false), false⟩,
       ⟨some 55, .binOp .eql t_uint8 (.tmp 54) (.const (.int .u8 237)) t_uint8, some (some 53, false), false⟩,
       ⟨some 56, .move (.tmp 55), some (some 53, false), false⟩,
       ⟨some 57, .move (.tmp 0), some (some 56, true), false⟩,
       ⟨some 58, .move (.tmp 1), some (some 56, true), false⟩,
       ⟨some 59, .binOp .add t_int (.tmp 58) (.const (.int .i64 1)) t_int, some (some 56, true), false⟩,
       ⟨some 60, .index t_string (.tmp 57) (.tmp 59), some (some 56, true), false⟩,
       ⟨some 61, .binOp .geq t_uint8 (.tmp 60) (.const (.int .u8 160)) t_uint8, some (some 56, true), false⟩,
       ⟨some 62, .pick (.tmp 56) (.tmp 61) (.const (.bool false)), some (some 53, false), false⟩,
       ⟨some 63, .pick (.tmp 53) (.const (.bool true)) (.tmp 62), none, false⟩])
      (.cond (.tmp 63)
       (.seq (.reg [⟨some 4, .assign (.const (.int .i64 0)), none, false⟩])
       .ret)
       .skip))
      (.seq (.reg [⟨some 4, .assign (.const (.int .i64 3)), none, false⟩])
      .ret))
      (.seq (.reg [⟨some 65, .move (.tmp 5), none, false⟩,
       ⟨some 66, .binOp .geq t_uint8 (.tmp 65) (.const (.int .u8 240)) t_uint8, none, false⟩,
       ⟨some 67, .move (.tmp 66), none, false⟩,
       ⟨some 68, .move (.tmp 5), some (some 67, true), false⟩,
       ⟨some 69, .binOp .lss t_uint8 (.tmp 68) (.const (.int .u8 245)) t_uint8, some (some 67, true), false⟩,
       ⟨some 70, .pick (.tmp 67) (.tmp 69) (.const (.bool false)), none, false⟩,
       ⟨some 71, .move (.tmp 70), none, false⟩,
       ⟨some 72, .move (.tmp 0), some (some 71, true), false⟩,
       ⟨some 73, .move (.tmp 1), some (some 71, true), false⟩,
       ⟨some 74, .binOp .add t_int (.tmp 73) (.const (.int .i64 1)) t_int, some (some 71, true), false⟩,
       ⟨some 75, .call ⟨.value (.func f_louperef02_cont), ⟨[(.tmp 72), (.tmp 74)]⟩, ⟨[t_string, t_int]⟩⟩, some (some 71, true), false⟩,
       ⟨some 76, .pick (.tmp 71) (.tmp 75) (.const (.bool false)), none, false⟩,
       ⟨some 77, .move (.tmp 76), none, false⟩,
       ⟨some 78, .move (.tmp 0), some (some 77, true), false⟩,
       ⟨some 79, .move (.tmp 1), some (some 77, true), false⟩,
       ⟨some 80, .binOp .add t_int (.tmp 79) (.const (.int .i64 2)) t_int, some (some 77, true), false⟩,
       ⟨some 81, .call ⟨.value (.func f_louperef02_cont), ⟨[(.tmp 78), (.tmp 80)]⟩, ⟨[t_string, t_int]⟩⟩, some (some 77, true), false⟩,
       ⟨some 82, .pick (.tmp 77) (.tmp 81) (.const (.bool false)), none, false⟩,
       ⟨some 83, .move (.tmp 82), none, false⟩,
       ⟨some 84, .move (.tmp 0), some (some 83, true), false⟩,
       ⟨some 85, .move (.tmp 1), some (some 83, true), false⟩,
       ⟨some 86, .binOp .add t_int (.tmp 85) (.const (.int .i64 3)) t_int, some (some 83, true), false⟩,
       ⟨some 87, .call ⟨.value (.func f_louperef02_cont), ⟨[(.tmp 84), (.tmp 86)]⟩, ⟨[t_string, t_int]⟩⟩, some (some 83, true), false⟩,
       ⟨some 88, .pick (.tmp 83) (.tmp 87) (.const (.bool false)), none, false⟩,
       ⟨some 64, .assign (.tmp 88), none, false⟩])
      (.cond (.tmp 64)
       (.seq (.seq (.reg [⟨some 89, .move (.tmp 5), none, false⟩,
        ⟨some 90, .binOp .eql t_uint8 (.tmp 89) (.const (.int .u8 240)) t_uint8, none, false⟩,
        ⟨some 91, .move (.tmp 90), none, false⟩,
        ⟨some 92, .move (.tmp 0), some (some 91, true), false⟩,
        ⟨some 93, .move (.tmp 1), some (some 91, true), false⟩,
        ⟨some 94, .binOp .add t_int (.tmp 93) (.const (.int .i64 1)) t_int, some (some 91, true), false⟩,
        ⟨some 95, .index t_string (.tmp 92) (.tmp 94), some (some 91, true), false⟩,
        ⟨some 96, .binOp .lss t_uint8 (.tmp 95) (.const (.int .u8 144)) t_uint8, some (some 91, true), false⟩,
        ⟨some 97, .pick (.tmp 91) (.tmp 96) (.const (.bool false)), none, false⟩,
        ⟨some 98, .move (.tmp 97), none, false⟩,
        ⟨some 99, .move (.tmp 5), some (some 98, false), false⟩,
        ⟨some 100, .binOp .eql t_uint8 (.tmp 99) (.const (.int .u8 244)) t_uint8, some (some 98, false), false⟩,
        ⟨some 101, .move (.tmp 100), some (some 98, false), false⟩,
        ⟨some 102, .move (.tmp 0), some (some 101, true), false⟩,
        ⟨some 103, .move (.tmp 1), some (some 101, true), false⟩,
        ⟨some 104, .binOp .add t_int (.tmp 103) (.const (.int .i64 1)) t_int, some (some 101, true), false⟩,
        ⟨some 105, .index t_string (.tmp 102) (.tmp 104), some (some 101, true), false⟩,
        ⟨some 106, .binOp .geq t_uint8 (.tmp 105) (.const (.int .u8 144)) t_uint8, some (some 101, true), false⟩,
        ⟨some 107, .pick (.tmp 101) (.tmp 106) (.const (.bool false)), some (some 98, false), false⟩,
        ⟨some 108, .pick (.tmp 98) (.const (.bool true)) (.tmp 107), none, false⟩])
       (.cond (.tmp 108)
        (.seq (.reg [⟨some 4, .assign (.const (.int .i64 0)), none, false⟩])
        .ret)
        .skip))
       (.seq (.reg [⟨some 4, .assign (.const (.int .i64 4)), none, false⟩])
       .ret))
       .skip)))))))))
  (.seq (.reg [⟨some 4, .assign (.const (.int .i64 0)), none, false⟩])
  .ret))))
theorem k_louperef02_Rune : FnOk Tryz.prog f_louperef02_Rune 109 [.tmp 4] q0f := ⟨_, _, Tryz.func98, by kernel_rfl, rfl, Tryz.ntmps98, rfl, by kernel_rfl⟩
def q4h : LC :=
  (.seq (.reg [⟨some 4, .assign (.const (.int .i64 0)), none, false⟩])
  (.seq (.reg [⟨some 5, .assign (.const (.int .i64 1)), none, false⟩])
  (.seq (.block 0 (.loop [true, true, false, false, false, true, false, false, false, false, false, false, false, false, false, false, false, false, false, false, false, false, false, false, false, false, false, false, false, false, false, false, false, false, false, false, false, false, false, false, false] none
   (.seq (.seq (.reg [⟨some 6, .move (.tmp 5), none, false⟩,
     ⟨some 7, .binOp .gtr t_int (.tmp 6) (.const (.int .i64 0)) t_int, none, false⟩])
    (.cond (.tmp 7)
     .skip
     (.exit 0)))
    (.block 1 (.seq (.seq (.reg [⟨some 8, .move (.tmp 1), none, false⟩,
      ⟨some 9, .move (.tmp 0), none, false⟩,
      ⟨some 10, .call ⟨.builtin .len, ⟨[(.tmp 9)]⟩, ⟨[t_api_Val]⟩⟩, none, false⟩,
      ⟨some 11, .binOp .geq t_int (.tmp 8) (.tmp 10) t_int, none, false⟩,
      ⟨some 12, .move (.tmp 11), none, false⟩,
      ⟨some 13, .move (.tmp 0), some (some 12, false), false⟩,
      ⟨some 14, .move (.tmp 1), some (some 12, false), false⟩,
      ⟨some 15, .indexAddr t_api_Val (.tmp 13) (.tmp 14), some (some 12, false), false⟩,
      ⟨some 16, .fieldAddr t_api_Node (.tmp 15) 1, some (some 12, false), false⟩,
      ⟨some 17, .load t_int (.tmp 16), some (some 12, false), false⟩,
      ⟨some 18, .binOp .lss t_int (.tmp 17) (.const (.int .i64 0)) t_int, some (some 12, false), false⟩,
      ⟨some 19, .pick (.tmp 12) (.const (.bool true)) (.tmp 18), none, false⟩,
      ⟨some 20, .move (.tmp 19), none, false⟩,
      ⟨some 21, .move (.tmp 0), some (some 20, false), false⟩,
      ⟨some 22, .move (.tmp 1), some (some 20, false), false⟩,
      ⟨some 23, .indexAddr t_api_Val (.tmp 21) (.tmp 22), some (some 20, false), false⟩,
      ⟨some 24, .fieldAddr t_api_Node (.tmp 23) 1, some (some 20, false), false⟩,
      ⟨some 25, .load t_int (.tmp 24), some (some 20, false), false⟩,
      ⟨some 26, .move (.tmp 0), some (some 20, false), false⟩,
      ⟨some 27, .call ⟨.builtin .len, ⟨[(.tmp 26)]⟩, ⟨[t_api_Val]⟩⟩, some (some 20, false), false⟩,
      ⟨some 28, .binOp .gtr t_int (.tmp 25) (.tmp 27) t_int, some (some 20, false), false⟩,
      ⟨some 29, .pick (.tmp 20) (.const (.bool true)) (.tmp 28), none, false⟩])
     (.cond (.tmp 29)
      (.seq (.reg [⟨some 4, .assign (.const (.int .i64 (-1))), none, false⟩])
      .ret)
      .skip))
     (.seq (.reg [⟨some 30, .move (.tmp 5), none, false⟩,
      ⟨some 31, .binOp .sub t_int (.tmp 30) (.const (.int .i64 1)) t_int, none, false⟩,
      ⟨some 32, .move (.tmp 0), none, false⟩,
      ⟨some 33, .move (.tmp 1), none, false⟩,
      ⟨some 34, .indexAddr t_api_Val (.tmp 32) (.tmp 33), none, false⟩,
      ⟨some 35, .fieldAddr t_api_Node (.tmp 34) 1, none, false⟩,
      ⟨some 36, .load t_int (.tmp 35), none, false⟩,
      ⟨some 37, .binOp .add t_int (.tmp 31) (.tmp 36) t_int, none, false⟩,
      ⟨some 5, .assign (.tmp 37), none, false⟩])
     (.reg [⟨some 38, .move (.tmp 1), none, false⟩,
      ⟨some 39, .binOp .add t_int (.tmp 38) (.const (.int .i64 1)) t_int, none, false⟩,
      ⟨some 1, .assign (.tmp 39), none, false⟩])))))))
  (.seq (.reg [⟨some 40, .move (.tmp 1), none, false⟩,
   ⟨some 4, .assign (.tmp 40), none, false⟩])
  .ret))))
theorem k_louperef02_Next : FnOk Tryz.prog f_louperef02_Next 41 [.tmp 4] q4h := ⟨_, _, Tryz.func105, by kernel_rfl, rfl, Tryz.ntmps105, rfl, by kernel_rfl⟩
def q0o : LC :=
  (.seq (.reg [⟨some 1, .box t_api_Node (.tmp 0), none, false⟩,
   ⟨some 2, .assign (.const (.bool false)), none, false⟩])
  (.seq (.reg [⟨some 3, .fieldAddr t_api_Node (.tmp 1) 2, none, false⟩,
   ⟨none, .store t_string (.tmp 3) (.const (.string ⟨⟨[]⟩⟩)), none, false⟩])
  (.seq (.seq (.reg [⟨some 4, .fieldAddr t_api_Node (.tmp 1) 0, none, false⟩,
   ⟨some 5, .load t_int (.tmp 4), none, false⟩])
  (.block 0 (.seq (.seq (.reg [⟨some 7, .binOp .eql t_int (.tmp 5) (.const (.int .i64 0)) t_int, none, false⟩,
    ⟨some 6, .assign (.tmp 7), none, false⟩])
   (.cond (.tmp 6)
    .skip
    (.seq (.reg [⟨some 8, .binOp .eql t_int (.tmp 5) (.const (.int .i64 1)) t_int, none, false⟩,
     ⟨some 6, .assign (.tmp 8), none, false⟩])
    (.cond (.tmp 6)
     .skip
     (.reg [⟨some 9, .binOp .eql t_int (.tmp 5) (.const (.int .i64 2)) t_int, none, false⟩,
      ⟨some 6, .assign (.tmp 9), none, false⟩])))))
   (.cond (.tmp 6)
    (.seq (.reg [⟨some 10, .load t_api_Node (.tmp 1), none, false⟩,
     ⟨some 11, .fieldAddr t_api_Node (.tmp 1) 0, none, false⟩,
     ⟨some 12, .load t_int (.tmp 11), none, false⟩,
     ⟨some 13, .build t_api_Node ⟨[(0, (.tmp 12))]⟩, none, false⟩,
     ⟨some 14, .binOp .eql t_api_Node (.tmp 10) (.tmp 13) t_api_Node, none, false⟩,
     ⟨some 2, .assign (.tmp 14), none, false⟩])
    .ret)
    (.seq (.reg [⟨some 16, .binOp .eql t_int (.tmp 5) (.const (.int .i64 3)) t_int, none, false⟩,
     ⟨some 15, .assign (.tmp 16), none, false⟩])
    (.cond (.tmp 15)
     (.seq (.reg [⟨some 17, .load t_api_Node (.tmp 1), none, false⟩,
      ⟨some 18, .call ⟨.value (.func f_louperef01_Right), ⟨[(.tmp 17)]⟩, ⟨[t_api_Node]⟩⟩, none, false⟩,
      ⟨some 2, .assign (.tmp 18), none, false⟩])
     .ret)
     (.seq (.reg [⟨some 20, .binOp .eql t_int (.tmp 5) (.const (.int .i64 4)) t_int, none, false⟩,
      ⟨some 19, .assign (.tmp 20), none, false⟩])
     (.cond (.tmp 19)
      (.seq (.reg [⟨some 21, .fieldAddr t_api_Node (.tmp 1) 3, none, false⟩,
       ⟨some 22, .load t_string (.tmp 21), none, false⟩,
       ⟨some 23, .call ⟨.value (.func f_louperef02_Utf), ⟨[(.tmp 22)]⟩, ⟨[t_string]⟩⟩, none, false⟩,
       ⟨some 24, .move (.tmp 23), none, false⟩,
       ⟨some 25, .load t_api_Node (.tmp 1), some (some 24, true), false⟩,
       ⟨some 26, .fieldAddr t_api_Node (.tmp 1) 0, some (some 24, true), false⟩,
       ⟨some 27, .load t_int (.tmp 26), some (some 24, true), false⟩,
       ⟨some 28, .fieldAddr t_api_Node (.tmp 1) 3, some (some 24, true), false⟩,
       ⟨some 29, .load t_string (.tmp 28), some (some 24, true), false⟩,
       ⟨some 30, .build t_api_Node ⟨[(0, (.tmp 27)), (3, (.tmp 29))]⟩, some (some 24, true), false⟩,
       ⟨some 31, .binOp .eql t_api_Node (.tmp 25) (.tmp 30) t_api_Node, some (some 24, true), false⟩,
       ⟨some 32, .pick (.tmp 24) (.tmp 31) (.const (.bool false)), none, false⟩,
       ⟨some 2, .assign (.tmp 32), none, false⟩])
      .ret)
      (.seq (.seq (.reg [⟨some 34, .binOp .eql t_int (.tmp 5) (.const (.int .i64 5)) t_int, none, false⟩,
       ⟨some 33, .assign (.tmp 34), none, false⟩])
      (.cond (.tmp 33)
       .skip
       (.reg [⟨some 35, .binOp .eql t_int (.tmp 5) (.const (.int .i64 6)) t_int, none, false⟩,
        ⟨some 33, .assign (.tmp 35), none, false⟩])))
      (.cond (.tmp 33)
       (.seq (.reg [⟨some 36, .fieldAddr t_api_Node (.tmp 1) 1, none, false⟩,
        ⟨some 37, .load t_int (.tmp 36), none, false⟩,
        ⟨some 38, .binOp .geq t_int (.tmp 37) (.const (.int .i64 0)) t_int, none, false⟩,
        ⟨some 39, .move (.tmp 38), none, false⟩,
        ⟨some 40, .load t_api_Node (.tmp 1), some (some 39, true), false⟩,
        ⟨some 41, .fieldAddr t_api_Node (.tmp 1) 0, some (some 39, true), false⟩,
        ⟨some 42, .load t_int (.tmp 41), some (some 39, true), false⟩,
        ⟨some 43, .fieldAddr t_api_Node (.tmp 1) 1, some (some 39, true), false⟩,
        ⟨some 44, .load t_int (.tmp 43), some (some 39, true), false⟩,
        ⟨some 45, .build t_api_Node ⟨[(0, (.tmp 42)), (1, (.tmp 44))]⟩, some (some 39, true), false⟩,
        ⟨some 46, .binOp .eql t_api_Node (.tmp 40) (.tmp 45) t_api_Node, some (some 39, true), false⟩,
        ⟨some 47, .pick (.tmp 39) (.tmp 46) (.const (.bool false)), none, false⟩,
        ⟨some 2, .assign (.tmp 47), none, false⟩])
       .ret)
       .skip))))))))))
  (.seq (.reg [⟨some 2, .assign (.const (.bool false)), none, false⟩])
  .ret))))
theorem k_louperef02_plain : FnOk Tryz.prog f_louperef02_plain 48 [.tmp 2] q0o := ⟨_, _, Tryz.func106, by kernel_rfl, rfl, Tryz.ntmps106, rfl, by kernel_rfl⟩
def q3f : LC :=
  (.seq (.reg [⟨some 4, .assign (.const (.bool false)), none, false⟩])
  (.seq (.reg [⟨some 8, .move (.tmp 1), none, false⟩,
   ⟨some 9, .binOp .add t_int (.tmp 8) (.const (.int .i64 1)) t_int, none, false⟩,
   ⟨some 5, .assign (.tmp 9), none, false⟩])
  (.seq (.seq (.reg [⟨some 6, .assign (.const (.int .i64 0)), none, false⟩])
  (.block 0 (.loop [true, true, false, false, false, true, true, false, false, false, false, false, false, false, false, false, false, false, false, false, false, false, false, false, false, false, false, false, false, false, false, false, false, false, false, false, false, false, false, false, false, false, false, false, false, false, false, false, false, false, false, false, false, false, false, false, false, false, false, false, false, false, false, false, false, false, false, false, false, false, false, false, false, false, false] none
   (.seq (.seq (.reg [⟨some 10, .move (.tmp 6), none, false⟩,
     ⟨some 11, .move (.tmp 0), none, false⟩,
     ⟨some 12, .move (.tmp 1), none, false⟩,
     ⟨some 13, .indexAddr t_api_Val (.tmp 11) (.tmp 12), none, false⟩,
     ⟨some 14, .fieldAddr t_api_Node (.tmp 13) 1, none, false⟩,
     ⟨some 15, .load t_int (.tmp 14), none, false⟩,
     ⟨some 16, .binOp .lss t_int (.tmp 10) (.tmp 15) t_int, none, false⟩])
    (.cond (.tmp 16)
     .skip
     (.exit 0)))
    (.seq (.block 1 (.seq (.seq (.reg [⟨some 19, .move (.tmp 0), none, false⟩,
      ⟨some 20, .move (.tmp 1), none, false⟩,
      ⟨some 21, .indexAddr t_api_Val (.tmp 19) (.tmp 20), none, false⟩,
      ⟨some 22, .fieldAddr t_api_Node (.tmp 21) 0, none, false⟩,
      ⟨some 23, .load t_int (.tmp 22), none, false⟩,
      ⟨some 24, .binOp .eql t_int (.tmp 23) (.const (.int .i64 5)) t_int, none, false⟩,
      ⟨some 25, .move (.tmp 24), none, false⟩,
      ⟨some 26, .move (.tmp 0), some (some 25, true), false⟩,
      ⟨some 27, .move (.tmp 5), some (some 25, true), false⟩,
      ⟨some 28, .indexAddr t_api_Val (.tmp 26) (.tmp 27), some (some 25, true), false⟩,
      ⟨some 29, .fieldAddr t_api_Node (.tmp 28) 2, some (some 25, true), false⟩,
      ⟨some 30, .load t_string (.tmp 29), some (some 25, true), false⟩,
      ⟨some 31, .binOp .neq t_string (.tmp 30) (.const (.string ⟨⟨[]⟩⟩)) t_string, some (some 25, true), false⟩,
      ⟨some 32, .pick (.tmp 25) (.tmp 31) (.const (.bool false)), none, false⟩,
      ⟨some 33, .move (.tmp 32), none, false⟩,
      ⟨some 34, .move (.tmp 0), some (some 33, false), false⟩,
      ⟨some 35, .move (.tmp 5), some (some 33, false), false⟩,
      ⟨some 36, .indexAddr t_api_Val (.tmp 34) (.tmp 35), some (some 33, false), false⟩,
      ⟨some 37, .fieldAddr t_api_Node (.tmp 36) 2, some (some 33, false), false⟩,
      ⟨some 38, .load t_string (.tmp 37), some (some 33, false), false⟩,
      ⟨some 39, .call ⟨.value (.func f_louperef02_Utf), ⟨[(.tmp 38)]⟩, ⟨[t_string]⟩⟩, some (some 33, false), false⟩,
      ⟨some 40, .unOp .not t_bool (.tmp 39), some (some 33, false), false⟩,
      ⟨some 41, .pick (.tmp 33) (.const (.bool true)) (.tmp 40), none, false⟩])
     (.cond (.tmp 41)
      (.seq (.reg [⟨some 4, .assign (.const (.bool false)), none, false⟩])
      .ret)
      .skip))
     (.seq (.reg [⟨some 42, .move (.tmp 0), none, false⟩,
      ⟨some 43, .move (.tmp 5), none, false⟩,
      ⟨some 44, .call ⟨.value (.func f_louperef02_Next), ⟨[(.tmp 42), (.tmp 43)]⟩, ⟨[t_api_Val, t_int]⟩⟩, none, false⟩,
      ⟨some 7, .assign (.tmp 44), none, false⟩])
     (.seq (.seq (.draw [⟨some 45, .move (.tmp 0), none, false⟩,
      ⟨some 46, .move (.tmp 1), none, false⟩,
      ⟨some 47, .indexAddr t_api_Val (.tmp 45) (.tmp 46), none, false⟩,
      ⟨some 48, .fieldAddr t_api_Node (.tmp 47) 0, none, false⟩,
      ⟨some 49, .load t_int (.tmp 48), none, false⟩,
      ⟨some 50, .binOp .eql t_int (.tmp 49) (.const (.int .i64 6)) t_int, none, false⟩,
      ⟨some 51, .move (.tmp 50), none, false⟩,
      ⟨some 52, .move (.tmp 6), some (some 51, true), false⟩,
      ⟨some 53, .binOp .add t_int (.tmp 52) (.const (.int .i64 1)) t_int, some (some 51, true), false⟩,
      ⟨some 54, .move (.tmp 0), some (some 51, true), false⟩,
      ⟨some 55, .move (.tmp 1), some (some 51, true), false⟩,
      ⟨some 56, .indexAddr t_api_Val (.tmp 54) (.tmp 55), some (some 51, true), false⟩,
      ⟨some 57, .fieldAddr t_api_Node (.tmp 56) 1, some (some 51, true), false⟩,
      ⟨some 58, .load t_int (.tmp 57), some (some 51, true), false⟩,
      ⟨some 59, .binOp .lss t_int (.tmp 53) (.tmp 58) t_int, some (some 51, true), false⟩,
      ⟨some 60, .pick (.tmp 51) (.tmp 59) (.const (.bool false)), none, false⟩,
      ⟨some 61, .move (.tmp 60), none, false⟩,
      ⟨some 62, .move (.tmp 0), some (some 61, true), false⟩,
      ⟨some 63, .move (.tmp 5), some (some 61, true), false⟩,
      ⟨some 64, .indexAddr t_api_Val (.tmp 62) (.tmp 63), some (some 61, true), false⟩,
      ⟨some 65, .fieldAddr t_api_Node (.tmp 64) 2, some (some 61, true), false⟩,
      ⟨some 66, .load t_string (.tmp 65), some (some 61, true), false⟩,
      ⟨some 67, .move (.tmp 0), some (some 61, true), false⟩,
      ⟨some 68, .move (.tmp 7), some (some 61, true), false⟩,
      ⟨some 69, .indexAddr t_api_Val (.tmp 67) (.tmp 68), some (some 61, true), false⟩,
      ⟨some 70, .fieldAddr t_api_Node (.tmp 69) 2, some (some 61, true), false⟩,
      ⟨some 71, .load t_string (.tmp 70), some (some 61, true), false⟩,
      ⟨some 72, .binOp .geq t_string (.tmp 66) (.tmp 71) t_string, some (some 61, true), false⟩,
      ⟨some 73, .pick (.tmp 61) (.tmp 72) (.const (.bool false)), none, false⟩]
     [0, 1, 0, 0, 0, 0, 0, 0, 0, 384, 896, 384, 384, 384, 0, 0, 0, 0, 131072, 0, 0, 0, 4063232, 8257536, 4063232, 4063232, 4063232, 0, 0])
     (.cond (.tmp 73)
      (.seq (.reg [⟨some 4, .assign (.const (.bool false)), none, false⟩])
      .ret)
      .skip))
     (.reg [⟨some 74, .move (.tmp 7), none, false⟩,
      ⟨some 5, .assign (.tmp 74), none, false⟩])))))
    (.reg [⟨some 17, .move (.tmp 6), none, false⟩,
     ⟨some 18, .binOp .add t_int (.tmp 17) (.const (.int .i64 1)) t_int, none, false⟩,
     ⟨some 6, .assign (.tmp 18), none, false⟩]))))))
  (.seq (.reg [⟨some 4, .assign (.const (.bool true)), none, false⟩])
  .ret))))
theorem k_louperef02_rising : FnOk Tryz.prog f_louperef02_rising 75 [.tmp 4] q3f := ⟨_, _, Tryz.func107, by kernel_rfl, rfl, Tryz.ntmps107, rfl, by kernel_rfl⟩
def q54 : LC :=
  (.seq (.reg [⟨some 2, .assign (.const (.bool false)), none, false⟩])
  (.seq (.reg [⟨some 3, .move (.tmp 0), none, false⟩,
   ⟨some 4, .move (.tmp 0), none, false⟩,
   ⟨some 5, .binOp .neq t_int (.tmp 3) (.tmp 4) t_int, none, false⟩,
   ⟨some 2, .assign (.tmp 5), none, false⟩])
  .ret))
theorem k_cmp_isNaN_int_ : FnOk Tryz.prog f_cmp_isNaN_int_ 6 [.tmp 2] q54 := ⟨_, _, Tryz.func218, by kernel_rfl, rfl, Tryz.ntmps218, rfl, by kernel_rfl⟩
def qby : LC :=
  (.seq (.reg [⟨some 2, .box t_api_Node (.tmp 0), none, false⟩,
   ⟨some 3, .box t_api_Node (.tmp 1), none, false⟩,
   ⟨some 4, .assign (.const (.int .i64 0)), none, false⟩])
  (.seq (.seq (.weak (.reg [⟨some 6, .fieldAddr t_api_Node (.tmp 2) 3, none, false⟩,
   ⟨some 7, .load t_string (.tmp 6), none, false⟩,
   ⟨some 8, .binOp .eql t_string (.tmp 7) (.const (.string ⟨⟨[]⟩⟩)) t_string, none, false⟩,
   ⟨some 9, .move (.tmp 8), none, false⟩,
   ⟨some 10, .fieldAddr t_api_Node (.tmp 3) 3, some (some 9, false), false⟩,
   ⟨some 11, .load t_string (.tmp 10), some (some 9, false), false⟩,
   ⟨some 12, .binOp .eql t_string (.tmp 11) (.const (.string ⟨⟨[]⟩⟩)) t_string, some (some 9, false), false⟩,
   ⟨some 13, .pick (.tmp 9) (.const (.bool true)) (.tmp 12), none, false⟩]))
  (.cond (.tmp 13)
   (.seq (.reg [⟨some 14, .fieldAddr t_api_Node (.tmp 2) 3, none, false⟩,
    ⟨some 15, .load t_string (.tmp 14), none, false⟩,
    ⟨some 16, .call ⟨.builtin .len, ⟨[(.tmp 15)]⟩, ⟨[t_string]⟩⟩, none, false⟩,
    ⟨some 17, .fieldAddr t_api_Node (.tmp 3) 3, none, false⟩,
    ⟨some 18, .load t_string (.tmp 17), none, false⟩,
    ⟨some 19, .call ⟨.builtin .len, ⟨[(.tmp 18)]⟩, ⟨[t_string]⟩⟩, none, false⟩,
    ⟨some 20, .call ⟨.value (.func f_cmp_Compare_int_), ⟨[(.tmp 16), (.tmp 19)]⟩, ⟨[t_int, t_int]⟩⟩, none, false⟩,
    ⟨some 4, .assign (.tmp 20), none, false⟩])
   .ret)
   .skip))
  (.seq (.seq (.reg [⟨some 21, .fieldAddr t_api_Node (.tmp 2) 3, none, false⟩,
   ⟨some 22, .load t_string (.tmp 21), none, false⟩,
   ⟨some 23, .call ⟨.builtin .len, ⟨[(.tmp 22)]⟩, ⟨[t_string]⟩⟩, none, false⟩,
   ⟨some 24, .fieldAddr t_api_Node (.tmp 2) 5, none, false⟩,
   ⟨some 25, .load t_int (.tmp 24), none, false⟩,
   ⟨some 26, .binOp .add t_int (.tmp 23) (.tmp 25) t_int, none, false⟩,
   ⟨some 27, .fieldAddr t_api_Node (.tmp 3) 3, none, false⟩,
   ⟨some 28, .load t_string (.tmp 27), none, false⟩,
   ⟨some 29, .call ⟨.builtin .len, ⟨[(.tmp 28)]⟩, ⟨[t_string]⟩⟩, none, false⟩,
   ⟨some 30, .fieldAddr t_api_Node (.tmp 3) 5, none, false⟩,
   ⟨some 31, .load t_int (.tmp 30), none, false⟩,
   ⟨some 32, .binOp .add t_int (.tmp 29) (.tmp 31) t_int, none, false⟩,
   ⟨some 33, .call ⟨.value (.func f_cmp_Compare_int_), ⟨[(.tmp 26), (.tmp 32)]⟩, ⟨[t_int, t_int]⟩⟩, none, false⟩,
   ⟨some 5, .assign (.tmp 33), none, false⟩])
  (.seq (.reg [⟨some 34, .move (.tmp 5), none, false⟩,
   ⟨some 35, .binOp .neq t_int (.tmp 34) (.const (.int .i64 0)) t_int, none, false⟩])
  (.cond (.tmp 35)
   (.seq (.reg [⟨some 36, .move (.tmp 5), none, false⟩,
    ⟨some 4, .assign (.tmp 36), none, false⟩])
   .ret)
   .skip)))
  (.seq (.reg [⟨some 37, .fieldAddr t_api_Node (.tmp 2) 3, none, false⟩,
   ⟨some 38, .load t_string (.tmp 37), none, false⟩,
   ⟨some 39, .fieldAddr t_api_Node (.tmp 3) 3, none, false⟩,
   ⟨some 40, .load t_string (.tmp 39), none, false⟩,
   ⟨some 41, .call ⟨.value (.func f_cmp_Compare_string_), ⟨[(.tmp 38), (.tmp 40)]⟩, ⟨[t_string, t_string]⟩⟩, none, false⟩,
   ⟨some 4, .assign (.tmp 41), none, false⟩])
  .ret))))
theorem k_num_size : FnOk Tryz.prog f_num_size 42 [.tmp 4] qby := ⟨_, _, Tryz.func219, by kernel_rfl, rfl, Tryz.ntmps219, rfl, by kernel_rfl⟩
def q3g : LC :=
  (.seq (.reg [⟨some 2, .assign (.const (.bool false)), none, false⟩])
  (.seq (.reg [⟨some 3, .move (.tmp 0), none, false⟩,
   ⟨some 4, .move (.tmp 0), none, false⟩,
   ⟨some 5, .binOp .neq t_string (.tmp 3) (.tmp 4) t_string, none, false⟩,
   ⟨some 2, .assign (.tmp 5), none, false⟩])
  .ret))
theorem k_cmp_isNaN_string_ : FnOk Tryz.prog f_cmp_isNaN_string_ 6 [.tmp 2] q3g := ⟨_, _, Tryz.func220, by kernel_rfl, rfl, Tryz.ntmps220, rfl, by kernel_rfl⟩
def qbz : LC :=
  (.seq (.reg [⟨some 1, .box t_api_Val (.tmp 0), none, false⟩,
   ⟨some 2, .assign (.const (.nilFunc)), none, false⟩])
  (.seq (.reg [⟨some 3, .makeFunc (.func f_val_each_1) ⟨[]⟩ ⟨[(.tmp 1)]⟩, none, false⟩,
   ⟨some 2, .assign (.tmp 3), none, false⟩])
  .ret))
theorem k_val_each : FnOk Tryz.prog f_val_each 4 [.tmp 2] qbz := ⟨_, _, Tryz.func95, by kernel_rfl, rfl, Tryz.ntmps95, rfl, by kernel_rfl⟩
def q5h : LC :=
  (.seq (.reg [⟨some 2, .box t_api_Node (.tmp 0), none, false⟩,
   ⟨some 4, .assign (.const (.int .i64 0)), none, false⟩])
  (.seq (.weak (.reg [⟨some 6, .fieldAddr t_api_Node (.tmp 2) 3, none, false⟩,
   ⟨some 7, .load t_string (.tmp 6), none, false⟩,
   ⟨some 8, .call ⟨.builtin .len, ⟨[(.tmp 7)]⟩, ⟨[t_string]⟩⟩, none, false⟩,
   ⟨some 9, .binOp .sub t_int (.tmp 8) (.const (.int .i64 1)) t_int, none, false⟩,
   ⟨some 10, .move (.tmp 1), none, false⟩,
   ⟨some 11, .fieldAddr t_api_Node (.tmp 2) 5, none, false⟩,
   ⟨some 12, .load t_int (.tmp 11), none, false⟩,
   ⟨some 13, .binOp .sub t_int (.tmp 10) (.tmp 12) t_int, none, false⟩,
   ⟨some 14, .binOp .sub t_int (.tmp 9) (.tmp 13) t_int, none, false⟩,
   ⟨some 5, .assign (.tmp 14), none, false⟩]))
  (.seq (.seq (.reg [⟨some 15, .move (.tmp 5), none, false⟩,
   ⟨some 16, .binOp .lss t_int (.tmp 15) (.const (.int .i64 0)) t_int, none, false⟩,
   ⟨some 17, .move (.tmp 16), none, false⟩,
   ⟨some 18, .move (.tmp 5), some (some 17, false), false⟩,
   ⟨some 19, .fieldAddr t_api_Node (.tmp 2) 3, some (some 17, false), false⟩,
   ⟨some 20, .load t_string (.tmp 19), some (some 17, false), false⟩,
   ⟨some 21, .call ⟨.builtin .len, ⟨[(.tmp 20)]⟩, ⟨[t_string]⟩⟩, some (some 17, false), false⟩,
   ⟨some 22, .binOp .geq t_int (.tmp 18) (.tmp 21) t_int, some (some 17, false), false⟩,
   ⟨some 23, .pick (.tmp 17) (.const (.bool true)) (.tmp 22), none, false⟩])
  (.cond (.tmp 23)
   (.seq (.reg [⟨some 4, .assign (.const (.int .i64 0)), none, false⟩])
   .ret)
   .skip))
  (.seq (.reg [⟨some 24, .fieldAddr t_api_Node (.tmp 2) 3, none, false⟩,
   ⟨some 25, .load t_string (.tmp 24), none, false⟩,
   ⟨some 26, .move (.tmp 5), none, false⟩,
   ⟨some 27, .index t_string (.tmp 25) (.tmp 26), none, false⟩,
   ⟨some 28, .binOp .sub t_uint8 (.tmp 27) (.const (.int .u8 48)) t_uint8, none, false⟩,
   ⟨some 29, .convert t_uint8 t_int (.tmp 28), none, false⟩,
   ⟨some 4, .assign (.tmp 29), none, false⟩])
  .ret))))
theorem k_louperef01_at : FnOk Tryz.prog f_louperef01_at 30 [.tmp 4] q5h := ⟨_, _, Tryz.func221, by kernel_rfl, rfl, Tryz.ntmps221, rfl, by kernel_rfl⟩
def q55 : LC :=
  (.seq (.reg [⟨some 6, .assign (.const (.slice none 0 0)), none, false⟩])
  (.seq (.reg [⟨some 9, .buildSlice t_api_Val 0 ⟨[]⟩, none, true⟩,
   ⟨some 10, .move (.tmp 0), none, false⟩,
   ⟨some 11, .move (.tmp 1), none, false⟩,
   ⟨some 12, .move (.tmp 2), none, false⟩,
   ⟨some 13, .slice t_api_Val (.tmp 10) (some (.tmp 11)) (some (.tmp 12)) none, none, false⟩,
   ⟨some 14, .call ⟨.builtin .append, ⟨[(.tmp 9), (.tmp 13)]⟩, ⟨[t_api_Val, t_api_Val]⟩⟩, none, false⟩,
   ⟨some 7, .assign (.tmp 14), none, false⟩])
  (.seq (.reg [⟨some 15, .move (.tmp 7), none, false⟩,
   ⟨some 16, .indexAddr t_api_Val (.tmp 15) (.const (.int .i64 0)), none, false⟩,
   ⟨some 17, .load t_api_Node (.tmp 16), none, false⟩,
   ⟨some 8, .alloc t_api_Node, none, false⟩,
   ⟨none, .store t_api_Node (.tmp 8) (.tmp 17), none, false⟩])
  (.seq (.reg [⟨some 18, .fieldAddr t_api_Node (.tmp 8) 2, none, false⟩,
   ⟨none, .store t_string (.tmp 18) (.const (.string ⟨⟨[]⟩⟩)), none, false⟩])
  (.seq (.reg [⟨some 19, .move (.tmp 7), none, false⟩,
   ⟨some 20, .load t_api_Node (.tmp 8), none, false⟩,
   ⟨some 21, .indexAddr t_api_Val (.tmp 19) (.const (.int .i64 0)), none, false⟩,
   ⟨none, .store t_api_Node (.tmp 21) (.tmp 20), none, false⟩])
  (.seq (.reg [⟨some 22, .move (.tmp 7), none, false⟩,
   ⟨some 6, .assign (.tmp 22), none, false⟩])
  .ret))))))
theorem k_louperef02_own : FnOk Tryz.prog f_louperef02_own 23 [.tmp 6] q55 := ⟨_, _, Tryz.func176, by kernel_rfl, rfl, Tryz.ntmps176, rfl, by kernel_rfl⟩
def q2m : LC :=
  (.seq (.reg [⟨some 4, .assign (.const (.bool false)), none, false⟩])
  (.seq (.reg [⟨some 5, .move (.tmp 1), none, false⟩,
   ⟨some 6, .move (.tmp 0), none, false⟩,
   ⟨some 7, .call ⟨.builtin .len, ⟨[(.tmp 6)]⟩, ⟨[t_string]⟩⟩, none, false⟩,
   ⟨some 8, .binOp .lss t_int (.tmp 5) (.tmp 7) t_int, none, false⟩,
   ⟨some 9, .move (.tmp 8), none, false⟩,
   ⟨some 10, .move (.tmp 0), some (some 9, true), false⟩,
   ⟨some 11, .move (.tmp 1), some (some 9, true), false⟩,
   ⟨some 12, .index t_string (.tmp 10) (.tmp 11), some (some 9, true), false⟩,
   ⟨some 13, .binOp .geq t_uint8 (.tmp 12) (.const (.int .u8 128)) t_uint8, some (some 9, true), false⟩,
   ⟨some 14, .pick (.tmp 9) (.tmp 13) (.const (.bool false)), none, false⟩,
   ⟨some 15, .move (.tmp 14), none, false⟩,
   ⟨some 16, .move (.tmp 0), some (some 15, true), false⟩,
   ⟨some 17, .move (.tmp 1), some (some 15, true), false⟩,
   ⟨some 18, .index t_string (.tmp 16) (.tmp 17), some (some 15, true), false⟩,
   ⟨some 19, .binOp .lss t_uint8 (.tmp 18) (.const (.int .u8 192)) t_uint8, some (some 15, true), false⟩,
   ⟨some 20, .pick (.tmp 15) (.tmp 19) (.const (.bool false)), none, false⟩,
   ⟨some 4, .assign (.tmp 20), none, false⟩])
  .ret))
theorem k_louperef02_cont : FnOk Tryz.prog f_louperef02_cont 21 [.tmp 4] q2m := ⟨_, _, Tryz.func177, by kernel_rfl, rfl, Tryz.ntmps177, rfl, by kernel_rfl⟩
def q3y : LC :=
  (.seq (.reg [⟨some 1, .box t_api_Node (.tmp 0), none, false⟩,
   ⟨some 2, .assign (.const (.bool false)), none, false⟩])
  (.seq (.seq (.weak (.reg [⟨some 3, .fieldAddr t_api_Node (.tmp 1) 0, none, false⟩,
   ⟨some 4, .load t_int (.tmp 3), none, false⟩,
   ⟨some 5, .binOp .neq t_int (.tmp 4) (.const (.int .i64 3)) t_int, none, false⟩,
   ⟨some 6, .move (.tmp 5), none, false⟩,
   ⟨some 7, .fieldAddr t_api_Node (.tmp 1) 1, some (some 6, false), false⟩,
   ⟨some 8, .load t_int (.tmp 7), some (some 6, false), false⟩,
   ⟨some 9, .binOp .neq t_int (.tmp 8) (.const (.int .i64 0)) t_int, some (some 6, false), false⟩,
   ⟨some 10, .pick (.tmp 6) (.const (.bool true)) (.tmp 9), none, false⟩,
   ⟨some 11, .move (.tmp 10), none, false⟩,
   ⟨some 12, .fieldAddr t_api_Node (.tmp 1) 2, some (some 11, false), false⟩,
   ⟨some 13, .load t_string (.tmp 12), some (some 11, false), false⟩,
   ⟨some 14, .binOp .neq t_string (.tmp 13) (.const (.string ⟨⟨[]⟩⟩)) t_string, some (some 11, false), false⟩,
   ⟨some 15, .pick (.tmp 11) (.const (.bool true)) (.tmp 14), none, false⟩,
   ⟨some 16, .move (.tmp 15), none, false⟩,
   ⟨some 17, .fieldAddr t_api_Node (.tmp 1) 3, some (some 16, false), false⟩,
   ⟨some 18, .load t_string (.tmp 17), some (some 16, false), false⟩,
   ⟨some 19, .call ⟨.value (.func f_louperef01_figures), ⟨[(.tmp 18)]⟩, ⟨[t_string]⟩⟩, some (some 16, false), false⟩,
   ⟨some 20, .unOp .not t_bool (.tmp 19), some (some 16, false), false⟩,
   ⟨some 21, .pick (.tmp 16) (.const (.bool true)) (.tmp 20), none, false⟩,
   ⟨some 22, .move (.tmp 21), none, false⟩,
   ⟨some 23, .fieldAddr t_api_Node (.tmp 1) 3, some (some 22, false), false⟩,
   ⟨some 24, .load t_string (.tmp 23), some (some 22, false), false⟩,
   ⟨some 25, .call ⟨.builtin .len, ⟨[(.tmp 24)]⟩, ⟨[t_string]⟩⟩, some (some 22, false), false⟩,
   ⟨some 26, .binOp .gtr t_int (.tmp 25) (.const (.int .i64 100)) t_int, some (some 22, false), false⟩,
   ⟨some 27, .pick (.tmp 22) (.const (.bool true)) (.tmp 26), none, false⟩,
   ⟨some 28, .move (.tmp 27), none, false⟩,
   ⟨some 29, .fieldAddr t_api_Node (.tmp 1) 5, some (some 28, false), false⟩,
   ⟨some 30, .load t_int (.tmp 29), some (some 28, false), false⟩,
   ⟨some 31, .binOp .lss t_int (.tmp 30) (.const (.int .i64 (-1000))) t_int, some (some 28, false), false⟩,
   ⟨some 32, .pick (.tmp 28) (.const (.bool true)) (.tmp 31), none, false⟩,
   ⟨some 33, .move (.tmp 32), none, false⟩,
   ⟨some 34, .fieldAddr t_api_Node (.tmp 1) 5, some (some 33, false), false⟩,
   ⟨some 35, .load t_int (.tmp 34), some (some 33, false), false⟩,
   ⟨some 36, .binOp .gtr t_int (.tmp 35) (.const (.int .i64 1000)) t_int, some (some 33, false), false⟩,
   ⟨some 37, .pick (.tmp 33) (.const (.bool true)) (.tmp 36), none, false⟩,
   ⟨some 38, .move (.tmp 37), none, false⟩,
   ⟨some 39, .fieldAddr t_api_Node (.tmp 1) 3, some (some 38, false), false⟩,
   ⟨some 40, .load t_string (.tmp 39), some (some 38, false), false⟩,
   ⟨some 41, .call ⟨.builtin .len, ⟨[(.tmp 40)]⟩, ⟨[t_string]⟩⟩, some (some 38, false), false⟩,
   ⟨some 42, .fieldAddr t_api_Node (.tmp 1) 5, some (some 38, false), false⟩,
   ⟨some 43, .load t_int (.tmp 42), some (some 38, false), false⟩,
   ⟨some 44, .binOp .add t_int (.tmp 41) (.tmp 43) t_int, some (some 38, false), false⟩,
   ⟨some 45, .binOp .gtr t_int (.tmp 44) (.const (.int .i64 1000)) t_int, some (some 38, false), false⟩,
   ⟨some 46, .pick (.tmp 38) (.const (.bool true)) (.tmp 45), none, false⟩]))
  (.cond (.tmp 46)
   (.seq (.reg [⟨some 2, .assign (.const (.bool false)), none, false⟩])
   .ret)
   .skip))
  (.seq (.seq (.reg [⟨some 47, .fieldAddr t_api_Node (.tmp 1) 3, none, false⟩,
   ⟨some 48, .load t_string (.tmp 47), none, false⟩,
   ⟨some 49, .binOp .eql t_string (.tmp 48) (.const (.string ⟨⟨[]⟩⟩)) t_string, none, false⟩])
  (.cond (.tmp 49)
   (.seq (.reg [⟨some 50, .fieldAddr t_api_Node (.tmp 1) 4, none, false⟩,
    ⟨some 51, .load t_bool (.tmp 50), none, false⟩,
    ⟨some 52, .unOp .not t_bool (.tmp 51), none, false⟩,
    ⟨some 53, .move (.tmp 52), none, false⟩,
    ⟨some 54, .fieldAddr t_api_Node (.tmp 1) 5, some (some 53, true), false⟩,
    ⟨some 55, .load t_int (.tmp 54), some (some 53, true), false⟩,
    ⟨some 56, .binOp .eql t_int (.tmp 55) (.const (.int .i64 0)) t_int, some (some 53, true), false⟩,
    ⟨some 57, .pick (.tmp 53) (.tmp 56) (.const (.bool false)), none, false⟩,
    ⟨some 2, .assign (.tmp 57), none, false⟩])
   .ret)
   .skip))
  (.seq (.reg [⟨some 58, .fieldAddr t_api_Node (.tmp 1) 3, none, false⟩,
   ⟨some 59, .load t_string (.tmp 58), none, false⟩,
   ⟨some 60, .index t_string (.tmp 59) (.const (.int .i64 0)), none, false⟩,
   ⟨some 61, .binOp .neq t_uint8 (.tmp 60) (.const (.int .u8 48)) t_uint8, none, false⟩,
   ⟨some 62, .move (.tmp 61), none, false⟩,
   ⟨some 63, .fieldAddr t_api_Node (.tmp 1) 3, some (some 62, true), false⟩,
   ⟨some 64, .load t_string (.tmp 63), some (some 62, true), false⟩,
   ⟨some 65, .fieldAddr t_api_Node (.tmp 1) 3, some (some 62, true), false⟩,
   ⟨some 66, .load t_string (.tmp 65), some (some 62, true), false⟩,
   ⟨some 67, .call ⟨.builtin .len, ⟨[(.tmp 66)]⟩, ⟨[t_string]⟩⟩, some (some 62, true), false⟩,
   ⟨some 68, .binOp .sub t_int (.tmp 67) (.const (.int .i64 1)) t_int, some (some 62, true), false⟩,
   ⟨some 69, .index t_string (.tmp 64) (.tmp 68), some (some 62, true), false⟩,
   ⟨some 70, .binOp .neq t_uint8 (.tmp 69) (.const (.int .u8 48)) t_uint8, some (some 62, true), false⟩,
   ⟨some 71, .pick (.tmp 62) (.tmp 70) (.const (.bool false)), none, false⟩,
   ⟨some 2, .assign (.tmp 71), none, false⟩])
  .ret))))
theorem k_louperef01_Right : FnOk Tryz.prog f_louperef01_Right 72 [.tmp 2] q3y := ⟨_, _, Tryz.func184, by kernel_rfl, rfl, Tryz.ntmps184, rfl, by kernel_rfl⟩
def q8l : LC :=
  (.seq (.reg [⟨some 3, .assign (.const (.int .i64 1)), none, false⟩])
  (.seq (.reg [⟨some 6, .load t_api_Val (.tmp 1), none, false⟩,
   ⟨some 7, .indexAddr t_api_Val (.tmp 6) (.const (.int .i64 0)), none, false⟩,
   ⟨some 8, .fieldAddr t_api_Node (.tmp 7) 1, none, false⟩,
   ⟨some 9, .load t_int (.tmp 8), none, false⟩,
   ⟨some 10, .move (.const (.int .i64 0)), none, false⟩])
  (.block 0 (.loop [true, true, false, true, false, false, false, false, false, true, true, false, false, false, false, false, false, false, false, false, false, false, false, false, false, false, false, false, false, false, false, false, false, false] none
   (.seq (.reg [⟨some 11, .binOp .lss t_int (.tmp 10) (.tmp 9) t_int, none, false⟩])
    (.seq (.cond (.tmp 11)
     .skip
     (.exit 0))
    (.seq (.block 1 (.seq (.reg [⟨some 12, .load t_api_Val (.tmp 1), none, false⟩,
      ⟨some 13, .move (.tmp 3), none, false⟩,
      ⟨some 14, .call ⟨.value (.func f_val_behind), ⟨[(.tmp 12), (.tmp 13)]⟩, ⟨[t_api_Val, t_int]⟩⟩, none, false⟩,
      ⟨some 4, .assign (.tmp 14), none, false⟩])
     (.seq (.reg [⟨some 15, .load t_api_Val (.tmp 1), none, false⟩,
      ⟨some 16, .move (.tmp 3), none, false⟩,
      ⟨some 17, .move (.tmp 4), none, false⟩,
      ⟨some 18, .slice t_api_Val (.tmp 15) (some (.tmp 16)) (some (.tmp 17)) none, none, false⟩,
      ⟨some 19, .call ⟨.value (.func f_slices_Clone_api_Val_api_Node_), ⟨[(.tmp 18)]⟩, ⟨[t_api_Val]⟩⟩, none, false⟩,
      ⟨some 5, .assign (.tmp 19), none, false⟩])
     (.seq (.reg [⟨some 20, .move (.tmp 5), none, false⟩,
      ⟨some 21, .indexAddr t_api_Val (.tmp 20) (.const (.int .i64 0)), none, false⟩,
      ⟨some 22, .fieldAddr t_api_Node (.tmp 21) 2, none, false⟩,
      ⟨none, .store t_string (.tmp 22) (.const (.string ⟨⟨[]⟩⟩)), none, false⟩])
     (.seq (.seq (.weak (.reg [⟨some 23, .move (.tmp 0), none, false⟩,
      ⟨some 24, .load t_api_Val (.tmp 1), none, false⟩,
      ⟨some 25, .move (.tmp 3), none, false⟩,
      ⟨some 26, .indexAddr t_api_Val (.tmp 24) (.tmp 25), none, false⟩,
      ⟨some 27, .fieldAddr t_api_Node (.tmp 26) 2, none, false⟩,
      ⟨some 28, .load t_string (.tmp 27), none, false⟩,
      ⟨some 29, .move (.tmp 5), none, false⟩,
      ⟨some 30, .call ⟨.value (.tmp 23), ⟨[(.tmp 28), (.tmp 29)]⟩, ⟨[t_string, t_api_Val]⟩⟩, none, false⟩,
      ⟨some 31, .unOp .not t_bool (.tmp 30), none, false⟩]))
     (.cond (.tmp 31)
      .ret
      .skip))
     (.reg [⟨some 32, .move (.tmp 4), none, false⟩,
      ⟨some 3, .assign (.tmp 32), none, false⟩]))))))
    (.reg [⟨some 33, .binOp .add t_int (.tmp 10) (.const (.int .i64 1)) t_int, none, false⟩,
     ⟨some 10, .move (.tmp 33), none, false⟩]))))))))
theorem k_val_each_1 : FnOk Tryz.prog f_val_each_1 34 [] q8l := ⟨_, _, Tryz.func173, by kernel_rfl, rfl, Tryz.ntmps173, rfl, by kernel_rfl⟩
def q8m : LC :=
  (.seq (.reg [⟨some 4, .assign (.const (.int .i64 0)), none, false⟩])
  (.seq (.seq (.reg [⟨some 5, .assign (.const (.int .i64 1)), none, false⟩])
  (.block 0 (.loop [true, true, false, false, false, true, false, false, false, false, false, false, false, false, false, false, false, false, false] none
   (.seq (.seq (.reg [⟨some 6, .move (.tmp 5), none, false⟩,
     ⟨some 7, .binOp .gtr t_int (.tmp 6) (.const (.int .i64 0)) t_int, none, false⟩])
    (.cond (.tmp 7)
     .skip
     (.exit 0)))
    (.seq (.block 1 (.reg [⟨some 10, .move (.tmp 5), none, false⟩,
      ⟨some 11, .move (.tmp 0), none, false⟩,
      ⟨some 12, .move (.tmp 1), none, false⟩,
      ⟨some 13, .indexAddr t_api_Val (.tmp 11) (.tmp 12), none, false⟩,
      ⟨some 14, .fieldAddr t_api_Node (.tmp 13) 1, none, false⟩,
      ⟨some 15, .load t_int (.tmp 14), none, false⟩,
      ⟨some 16, .binOp .sub t_int (.tmp 15) (.const (.int .i64 1)) t_int, none, false⟩,
      ⟨some 17, .binOp .add t_int (.tmp 10) (.tmp 16) t_int, none, false⟩,
      ⟨some 5, .assign (.tmp 17), none, false⟩]))
    (.reg [⟨some 8, .move (.tmp 1), none, false⟩,
     ⟨some 9, .binOp .add t_int (.tmp 8) (.const (.int .i64 1)) t_int, none, false⟩,
     ⟨some 1, .assign (.tmp 9), none, false⟩]))))))
  (.seq (.reg [⟨some 18, .move (.tmp 1), none, false⟩,
   ⟨some 4, .assign (.tmp 18), none, false⟩])
  .ret)))
theorem k_val_behind : FnOk Tryz.prog f_val_behind 19 [.tmp 4] q8m := ⟨_, _, Tryz.func174, by kernel_rfl, rfl, Tryz.ntmps174, rfl, by kernel_rfl⟩
def q0w : LC :=
  (.seq (.reg [⟨some 2, .assign (.const (.slice none 0 0)), none, false⟩])
  (.seq (.seq (.reg [⟨some 3, .move (.tmp 0), none, false⟩,
   ⟨some 4, .binOp .eql t_api_Val (.tmp 3) (.const (.slice none 0 0)) t_api_Val, none, false⟩])
  (.cond (.tmp 4)
   (.seq (.reg [⟨some 2, .assign (.const (.slice none 0 0)), none, false⟩])
   .ret)
   .skip))
  (.seq (.reg [⟨some 5, .buildSlice t_api_Val 0 ⟨[]⟩, none, true⟩,
   ⟨some 6, .move (.tmp 0), none, false⟩,
   ⟨some 7, .call ⟨.builtin .append, ⟨[(.tmp 5), (.tmp 6)]⟩, ⟨[t_api_Val, t_api_Val]⟩⟩, none, false⟩,
   ⟨some 2, .assign (.tmp 7), none, false⟩])
  .ret)))
theorem k_slices_Clone_api_Val_api_Node_ : FnOk Tryz.prog f_slices_Clone_api_Val_api_Node_ 8 [.tmp 2] q0w := ⟨_, _, Tryz.func175, by kernel_rfl, rfl, Tryz.ntmps175, rfl, by kernel_rfl⟩
def q2y : LC :=
  (.seq (.reg [⟨some 2, .assign (.const (.bool false)), none, false⟩])
  (.seq (.seq (.reg [⟨some 3, .assign (.const (.int .i64 0)), none, false⟩])
  (.block 0 (.loop [true, false, false, true, false, false, false, false, false, false, false, false, false, false, false, false, false, false, false, false] none
   (.seq (.seq (.reg [⟨some 4, .move (.tmp 3), none, false⟩,
     ⟨some 5, .move (.tmp 0), none, false⟩,
     ⟨some 6, .call ⟨.builtin .len, ⟨[(.tmp 5)]⟩, ⟨[t_string]⟩⟩, none, false⟩,
     ⟨some 7, .binOp .lss t_int (.tmp 4) (.tmp 6) t_int, none, false⟩])
    (.cond (.tmp 7)
     .skip
     (.exit 0)))
    (.seq (.block 1 (.seq (.reg [⟨some 10, .move (.tmp 0), none, false⟩,
      ⟨some 11, .move (.tmp 3), none, false⟩,
      ⟨some 12, .index t_string (.tmp 10) (.tmp 11), none, false⟩,
      ⟨some 13, .binOp .lss t_uint8 (.tmp 12) (.const (.int .u8 48)) t_uint8, none, false⟩,
      ⟨some 14, .move (.tmp 13), none, false⟩,
      ⟨some 15, .move (.tmp 0), some (some 14, false), false⟩,
      ⟨some 16, .move (.tmp 3), some (some 14, false), false⟩,
      ⟨some 17, .index t_string (.tmp 15) (.tmp 16), some (some 14, false), false⟩,
      ⟨some 18, .binOp .gtr t_uint8 (.tmp 17) (.const (.int .u8 57)) t_uint8, some (some 14, false), false⟩,
      ⟨some 19, .pick (.tmp 14) (.const (.bool true)) (.tmp 18), none, false⟩])
     (.cond (.tmp 19)
      (.seq (.reg [⟨some 2, .assign (.const (.bool false)), none, false⟩])
      .ret)
      .skip)))
    (.reg [⟨some 8, .move (.tmp 3), none, false⟩,
     ⟨some 9, .binOp .add t_int (.tmp 8) (.const (.int .i64 1)) t_int, none, false⟩,
     ⟨some 3, .assign (.tmp 9), none, false⟩]))))))
  (.seq (.reg [⟨some 2, .assign (.const (.bool true)), none, false⟩])
  .ret)))
theorem k_louperef01_figures : FnOk Tryz.prog f_louperef01_figures 20 [.tmp 2] q2y := ⟨_, _, Tryz.func230, by kernel_rfl, rfl, Tryz.ntmps230, rfl, by kernel_rfl⟩
end Lp

/-! LpC2 -/

namespace Lp
open Go Go.Proofs
end Lp

/-! LpC4 -/

namespace Lp
open Go Go.Proofs
end Lp

/-! LpC5 -/

namespace Lp
open Go Go.Proofs
def q7a : LC :=
  (.seq (.reg [⟨some 1, .box t_api_Node (.tmp 0), none, false⟩,
   ⟨some 2, .assign (.const (.bool false)), none, false⟩])
  (.seq (.reg [⟨some 3, .fieldAddr t_api_Node (.tmp 1) 2, none, false⟩,
   ⟨none, .store t_string (.tmp 3) (.const (.string ⟨⟨[]⟩⟩)), none, false⟩])
  (.seq (.seq (.weak (.reg [⟨some 4, .fieldAddr t_api_Node (.tmp 1) 0, none, false⟩,
   ⟨some 5, .load t_int (.tmp 4), none, false⟩]))
  (.block 0 (.seq (.seq (.reg [⟨some 7, .binOp .eql t_int (.tmp 5) (.const (.int .i64 0)) t_int, none, false⟩,
    ⟨some 6, .assign (.tmp 7), none, false⟩])
   (.cond (.tmp 6)
    .skip
    (.seq (.reg [⟨some 8, .binOp .eql t_int (.tmp 5) (.const (.int .i64 1)) t_int, none, false⟩,
     ⟨some 6, .assign (.tmp 8), none, false⟩])
    (.cond (.tmp 6)
     .skip
     (.reg [⟨some 9, .binOp .eql t_int (.tmp 5) (.const (.int .i64 2)) t_int, none, false⟩,
      ⟨some 6, .assign (.tmp 9), none, false⟩])))))
   (.cond (.tmp 6)
    (.seq (.reg [⟨some 10, .load t_api_Node (.tmp 1), none, false⟩,
     ⟨some 11, .fieldAddr t_api_Node (.tmp 1) 0, none, false⟩,
     ⟨some 12, .load t_int (.tmp 11), none, false⟩,
     ⟨some 13, .build t_api_Node ⟨[(0, (.tmp 12))]⟩, none, false⟩,
     ⟨some 14, .binOp .eql t_api_Node (.tmp 10) (.tmp 13) t_api_Node, none, false⟩,
     ⟨some 2, .assign (.tmp 14), none, false⟩])
    .ret)
    (.seq (.reg [⟨some 16, .binOp .eql t_int (.tmp 5) (.const (.int .i64 3)) t_int, none, false⟩,
     ⟨some 15, .assign (.tmp 16), none, false⟩])
    (.cond (.tmp 15)
     (.seq (.reg [⟨some 17, .load t_api_Node (.tmp 1), none, false⟩,
      ⟨some 18, .call ⟨.value (.func f_num_Right), ⟨[(.tmp 17)]⟩, ⟨[t_api_Node]⟩⟩, none, false⟩,
      ⟨some 2, .assign (.tmp 18), none, false⟩])
     .ret)
     (.seq (.reg [⟨some 20, .binOp .eql t_int (.tmp 5) (.const (.int .i64 4)) t_int, none, false⟩,
      ⟨some 19, .assign (.tmp 20), none, false⟩])
     (.cond (.tmp 19)
      (.seq (.reg [⟨some 21, .fieldAddr t_api_Node (.tmp 1) 3, none, false⟩,
       ⟨some 22, .load t_string (.tmp 21), none, false⟩,
       ⟨some 23, .call ⟨.value (.func f_unicode_utf8_ValidString), ⟨[(.tmp 22)]⟩, ⟨[t_string]⟩⟩, none, false⟩,
       ⟨some 24, .move (.tmp 23), none, false⟩,
       ⟨some 25, .load t_api_Node (.tmp 1), some (some 24, true), false⟩,
       ⟨some 26, .fieldAddr t_api_Node (.tmp 1) 0, some (some 24, true), false⟩,
       ⟨some 27, .load t_int (.tmp 26), some (some 24, true), false⟩,
       ⟨some 28, .fieldAddr t_api_Node (.tmp 1) 3, some (some 24, true), false⟩,
       ⟨some 29, .load t_string (.tmp 28), some (some 24, true), false⟩,
       ⟨some 30, .build t_api_Node ⟨[(0, (.tmp 27)), (3, (.tmp 29))]⟩, some (some 24, true), false⟩,
       ⟨some 31, .binOp .eql t_api_Node (.tmp 25) (.tmp 30) t_api_Node, some (some 24, true), false⟩,
       ⟨some 32, .pick (.tmp 24) (.tmp 31) (.const (.bool false)), none, false⟩,
       ⟨some 2, .assign (.tmp 32), none, false⟩])
      .ret)
      (.seq (.seq (.reg [⟨some 34, .binOp .eql t_int (.tmp 5) (.const (.int .i64 5)) t_int, none, false⟩,
       ⟨some 33, .assign (.tmp 34), none, false⟩])
      (.cond (.tmp 33)
       .skip
       (.reg [⟨some 35, .binOp .eql t_int (.tmp 5) (.const (.int .i64 6)) t_int, none, false⟩,
        ⟨some 33, .assign (.tmp 35), none, false⟩])))
      (.cond (.tmp 33)
       (.seq (.reg [⟨some 36, .fieldAddr t_api_Node (.tmp 1) 1, none, false⟩,
        ⟨some 37, .load t_int (.tmp 36), none, false⟩,
        ⟨some 38, .binOp .geq t_int (.tmp 37) (.const (.int .i64 0)) t_int, none, false⟩,
        ⟨some 39, .move (.tmp 38), none, false⟩,
        ⟨some 40, .load t_api_Node (.tmp 1), some (some 39, true), false⟩,
        ⟨some 41, .fieldAddr t_api_Node (.tmp 1) 0, some (some 39, true), false⟩,
        ⟨some 42, .load t_int (.tmp 41), some (some 39, true), false⟩,
        ⟨some 43, .fieldAddr t_api_Node (.tmp 1) 1, some (some 39, true), false⟩,
        ⟨some 44, .load t_int (.tmp 43), some (some 39, true), false⟩,
        ⟨some 45, .build t_api_Node ⟨[(0, (.tmp 42)), (1, (.tmp 44))]⟩, some (some 39, true), false⟩,
        ⟨some 46, .binOp .eql t_api_Node (.tmp 40) (.tmp 45) t_api_Node, some (some 39, true), false⟩,
        ⟨some 47, .pick (.tmp 39) (.tmp 46) (.const (.bool false)), none, false⟩,
        ⟨some 2, .assign (.tmp 47), none, false⟩])
       .ret)
       .skip))))))))))
  (.seq (.reg [⟨some 2, .assign (.const (.bool false)), none, false⟩])
  .ret))))
theorem k_val_isPlain : FnOk Tryz.prog f_val_isPlain 48 [.tmp 2] q7a := ⟨_, _, Tryz.func170, by kernel_rfl, rfl, Tryz.ntmps170, rfl, by kernel_rfl⟩
def qac : LC :=
  (.seq (.reg [⟨some 1, .box t_api_Node (.tmp 0), none, false⟩,
   ⟨some 2, .assign (.const (.bool false)), none, false⟩])
  (.seq (.seq (.weak (.reg [⟨some 3, .fieldAddr t_api_Node (.tmp 1) 0, none, false⟩,
   ⟨some 4, .load t_int (.tmp 3), none, false⟩,
   ⟨some 5, .binOp .neq t_int (.tmp 4) (.const (.int .i64 3)) t_int, none, false⟩,
   ⟨some 6, .move (.tmp 5), none, false⟩,
   ⟨some 7, .fieldAddr t_api_Node (.tmp 1) 1, some (some 6, false), false⟩,
   ⟨some 8, .load t_int (.tmp 7), some (some 6, false), false⟩,
   ⟨some 9, .binOp .neq t_int (.tmp 8) (.const (.int .i64 0)) t_int, some (some 6, false), false⟩,
   ⟨some 10, .pick (.tmp 6) (.const (.bool true)) (.tmp 9), none, false⟩,
   ⟨some 11, .move (.tmp 10), none, false⟩,
   ⟨some 12, .fieldAddr t_api_Node (.tmp 1) 2, some (some 11, false), false⟩,
   ⟨some 13, .load t_string (.tmp 12), some (some 11, false), false⟩,
   ⟨some 14, .binOp .neq t_string (.tmp 13) (.const (.string ⟨⟨[]⟩⟩)) t_string, some (some 11, false), false⟩,
   ⟨some 15, .pick (.tmp 11) (.const (.bool true)) (.tmp 14), none, false⟩,
   ⟨some 16, .move (.tmp 15), none, false⟩,
   ⟨some 17, .fieldAddr t_api_Node (.tmp 1) 3, some (some 16, false), false⟩,
   ⟨some 18, .load t_string (.tmp 17), some (some 16, false), false⟩,
   ⟨some 19, .call ⟨.builtin .len, ⟨[(.tmp 18)]⟩, ⟨[t_string]⟩⟩, some (some 16, false), false⟩,
   ⟨some 20, .binOp .gtr t_int (.tmp 19) (.const (.int .i64 100)) t_int, some (some 16, false), false⟩,
   ⟨some 21, .pick (.tmp 16) (.const (.bool true)) (.tmp 20), none, false⟩,
   ⟨some 22, .move (.tmp 21), none, false⟩,
   ⟨some 23, .fieldAddr t_api_Node (.tmp 1) 3, some (some 22, false), false⟩,
   ⟨some 24, .load t_string (.tmp 23), some (some 22, false), false⟩,
   ⟨some 25, .call ⟨.builtin .len, ⟨[(.tmp 24)]⟩, ⟨[t_string]⟩⟩, some (some 22, false), false⟩,
   ⟨some 26, .fieldAddr t_api_Node (.tmp 1) 5, some (some 22, false), false⟩,
   ⟨some 27, .load t_int (.tmp 26), some (some 22, false), false⟩,
   ⟨some 28, .call ⟨.value (.func f_num_isPower), ⟨[(.tmp 25), (.tmp 27)]⟩, ⟨[t_int, t_int]⟩⟩, some (some 22, false), false⟩,
   ⟨some 29, .unOp .not t_bool (.tmp 28), some (some 22, false), false⟩,
   ⟨some 30, .pick (.tmp 22) (.const (.bool true)) (.tmp 29), none, false⟩,
   ⟨some 31, .move (.tmp 30), none, false⟩,
   ⟨some 32, .fieldAddr t_api_Node (.tmp 1) 3, some (some 31, false), false⟩,
   ⟨some 33, .load t_string (.tmp 32), some (some 31, false), false⟩,
   ⟨some 34, .call ⟨.value (.func f_num_isFigures), ⟨[(.tmp 33)]⟩, ⟨[t_string]⟩⟩, some (some 31, false), false⟩,
   ⟨some 35, .unOp .not t_bool (.tmp 34), some (some 31, false), false⟩,
   ⟨some 36, .pick (.tmp 31) (.const (.bool true)) (.tmp 35), none, false⟩]))
  (.cond (.tmp 36)
   (.seq (.reg [⟨some 2, .assign (.const (.bool false)), none, false⟩])
   .ret)
   .skip))
  (.seq (.seq (.reg [⟨some 37, .fieldAddr t_api_Node (.tmp 1) 3, none, false⟩,
   ⟨some 38, .load t_string (.tmp 37), none, false⟩,
   ⟨some 39, .binOp .eql t_string (.tmp 38) (.const (.string ⟨⟨[]⟩⟩)) t_string, none, false⟩])
  (.cond (.tmp 39)
   (.seq (.reg [⟨some 40, .fieldAddr t_api_Node (.tmp 1) 4, none, false⟩,
    ⟨some 41, .load t_bool (.tmp 40), none, false⟩,
    ⟨some 42, .unOp .not t_bool (.tmp 41), none, false⟩,
    ⟨some 43, .move (.tmp 42), none, false⟩,
    ⟨some 44, .fieldAddr t_api_Node (.tmp 1) 5, some (some 43, true), false⟩,
    ⟨some 45, .load t_int (.tmp 44), some (some 43, true), false⟩,
    ⟨some 46, .binOp .eql t_int (.tmp 45) (.const (.int .i64 0)) t_int, some (some 43, true), false⟩,
    ⟨some 47, .pick (.tmp 43) (.tmp 46) (.const (.bool false)), none, false⟩,
    ⟨some 2, .assign (.tmp 47), none, false⟩])
   .ret)
   .skip))
  (.seq (.draw [⟨some 48, .fieldAddr t_api_Node (.tmp 1) 3, none, false⟩,
   ⟨some 49, .load t_string (.tmp 48), none, false⟩,
   ⟨some 50, .call ⟨.value (.func f_strings_Trim), ⟨[(.tmp 49), (.const (.string ⟨⟨[48]⟩⟩))]⟩, ⟨[t_string, t_string]⟩⟩, none, false⟩,
   ⟨some 51, .fieldAddr t_api_Node (.tmp 1) 3, none, false⟩,
   ⟨some 52, .load t_string (.tmp 51), none, false⟩,
   ⟨some 53, .binOp .eql t_string (.tmp 50) (.tmp 52) t_string, none, false⟩,
   ⟨some 2, .assign (.tmp 53), none, false⟩]
  [0, 0, 0, 7, 7, 0, 0])
  .ret))))
theorem k_num_Right : FnOk Tryz.prog f_num_Right 54 [.tmp 2] qac := ⟨_, _, Tryz.func226, by kernel_rfl, rfl, Tryz.ntmps226, rfl, by kernel_rfl⟩
def q32 : LC :=
  (.seq (.reg [⟨some 4, .assign (.const (.bool false)), none, false⟩])
  (.seq (.reg [⟨some 5, .move (.tmp 1), none, false⟩,
   ⟨some 6, .binOp .geq t_int (.tmp 5) (.const (.int .i64 (-1000))) t_int, none, false⟩,
   ⟨some 7, .move (.tmp 6), none, false⟩,
   ⟨some 8, .move (.tmp 1), some (some 7, true), false⟩,
   ⟨some 9, .binOp .leq t_int (.tmp 8) (.const (.int .i64 1000)) t_int, some (some 7, true), false⟩,
   ⟨some 10, .pick (.tmp 7) (.tmp 9) (.const (.bool false)), none, false⟩,
   ⟨some 11, .move (.tmp 10), none, false⟩,
   ⟨some 12, .move (.tmp 0), some (some 11, true), false⟩,
   ⟨some 13, .move (.tmp 1), some (some 11, true), false⟩,
   ⟨some 14, .binOp .add t_int (.tmp 12) (.tmp 13) t_int, some (some 11, true), false⟩,
   ⟨some 15, .binOp .leq t_int (.tmp 14) (.const (.int .i64 1000)) t_int, some (some 11, true), false⟩,
   ⟨some 16, .pick (.tmp 11) (.tmp 15) (.const (.bool false)), none, false⟩,
   ⟨some 4, .assign (.tmp 16), none, false⟩])
  .ret))
theorem k_num_isPower : FnOk Tryz.prog f_num_isPower 17 [.tmp 4] q32 := ⟨_, _, Tryz.func210, by kernel_rfl, rfl, Tryz.ntmps210, rfl, by kernel_rfl⟩
def q5i : LC :=
  (.seq (.reg [⟨some 2, .assign (.const (.bool false)), none, false⟩])
  (.seq (.reg [⟨some 3, .move (.tmp 0), none, false⟩,
   ⟨some 4, .call ⟨.value (.func f_strings_TrimFunc), ⟨[(.tmp 3), (.func f_num_isFigure)]⟩, ⟨[t_string, t_func_int32__bool]⟩⟩, none, false⟩,
   ⟨some 5, .binOp .eql t_string (.tmp 4) (.const (.string ⟨⟨[]⟩⟩)) t_string, none, false⟩,
   ⟨some 2, .assign (.tmp 5), none, false⟩])
  .ret))
theorem k_num_isFigures : FnOk Tryz.prog f_num_isFigures 6 [.tmp 2] q5i := ⟨_, _, Tryz.func207, by kernel_rfl, rfl, Tryz.ntmps207, rfl, by kernel_rfl⟩
def qad : LC :=
  (.seq (.reg [⟨some 2, .assign (.const (.bool false)), none, false⟩])
  (.seq (.reg [⟨some 8, .build t_val_open ⟨[(0, (.const (.int .i64 5))), (1, (.const (.int .i64 1)))]⟩, none, false⟩,
   ⟨some 9, .buildSlice t_L_val_open 1 ⟨[(0, (.tmp 8))]⟩, none, true⟩,
   ⟨some 3, .assign (.tmp 9), none, false⟩])
  (.seq (.seq (.reg [⟨some 10, .move (.tmp 0), none, false⟩,
   ⟨some 11, .call ⟨.builtin .len, ⟨[(.tmp 10)]⟩, ⟨[t_api_Val]⟩⟩, none, false⟩,
   ⟨some 12, .move (.const (.int .i64 0)), none, false⟩])
  (.block 0 (.loop [true, false, false, true, false, false, false, false, false, false, true, true, true, false, false, false, false, false, false, false, false, false, false, false, false, false, false, false, false, false, false, false, false, false, false, false, false, false, false, false, false, false, false, false, false, false, false, false, false, false, false, false, false, false, false, false, false, false, false, false, false, false, false, false, false, false, false, false, false, false, false, false, false, false, false, false, false, false, false, false, false, false, false, false, false, false, false, false, false, false, false, false, false, false, false, false, false, false, false, false, false, false, false, false, false, false, false, false, false, false, false, false, false, false, false, false, false, false, false, false, false, false, false] (some (1, 1))
   (.seq (.reg [⟨some 13, .binOp .lss t_int (.tmp 12) (.tmp 11) t_int, none, false⟩])
    (.seq (.cond (.tmp 13)
     .skip
     (.exit 0))
    (.seq (.block 1 (.seq (.reg [⟨some 14, .indexAddr t_api_Val (.tmp 10) (.tmp 12), none, false⟩,
      ⟨some 15, .load t_api_Node (.tmp 14), none, false⟩,
      ⟨some 5, .alloc t_api_Node, none, false⟩,
      ⟨none, .store t_api_Node (.tmp 5) (.tmp 15), none, false⟩])
     (.seq (.block 2 (.loop [true, false, false, true, false, true, false, false, false, false, true, true, true, false, false, false, false, false, false, false, false, false, false, false, false, false, false, false, false, false, false, false, false, false, false, false, false, false, false, false, false, false, false, false, false, false, false, false, false, false, false, false, false, false, false, false, false, false, false, false, false, false, false, false, false, false, false, false, false, false, false, false, false, false, false, false, false, false, false, false, false, false, false, false, false, false, false, false, false, false, false, false, false, false, false, false, false, false, false, false, false, false, false, false, false, false, false, false, false, false, false, false, false, false, false, false, false, false, false, false, false, false, false] none
      (.seq (.seq (.reg [⟨some 16, .move (.tmp 3), none, false⟩,
        ⟨some 17, .call ⟨.builtin .len, ⟨[(.tmp 16)]⟩, ⟨[t_L_val_open]⟩⟩, none, false⟩,
        ⟨some 18, .binOp .gtr t_int (.tmp 17) (.const (.int .i64 0)) t_int, none, false⟩,
        ⟨some 19, .move (.tmp 18), none, false⟩,
        ⟨some 20, .move (.tmp 3), some (some 19, true), false⟩,
        ⟨some 21, .move (.tmp 3), some (some 19, true), false⟩,
        ⟨some 22, .call ⟨.builtin .len, ⟨[(.tmp 21)]⟩, ⟨[t_L_val_open]⟩⟩, some (some 19, true), false⟩,
        ⟨some 23, .binOp .sub t_int (.tmp 22) (.const (.int .i64 1)) t_int, some (some 19, true), false⟩,
        ⟨some 24, .indexAddr t_L_val_open (.tmp 20) (.tmp 23), some (some 19, true), false⟩,
        ⟨some 25, .fieldAddr t_val_open (.tmp 24) 1, some (some 19, true), false⟩,
        ⟨some 26, .load t_int (.tmp 25), some (some 19, true), false⟩,
        ⟨some 27, .binOp .eql t_int (.tmp 26) (.const (.int .i64 0)) t_int, some (some 19, true), false⟩,
        ⟨some 28, .pick (.tmp 19) (.tmp 27) (.const (.bool false)), none, false⟩])
       (.cond (.tmp 28)
        .skip
        (.exit 2)))
       (.block 3 (.reg [⟨some 29, .move (.tmp 3), none, false⟩,
         ⟨some 30, .move (.tmp 3), none, false⟩,
         ⟨some 31, .call ⟨.builtin .len, ⟨[(.tmp 30)]⟩, ⟨[t_L_val_open]⟩⟩, none, false⟩,
         ⟨some 32, .binOp .sub t_int (.tmp 31) (.const (.int .i64 1)) t_int, none, false⟩,
         ⟨some 33, .slice t_L_val_open (.tmp 29) none (some (.tmp 32)) none, none, false⟩,
         ⟨some 3, .assign (.tmp 33), none, false⟩])))))
     (.seq (.seq (.reg [⟨some 34, .move (.tmp 3), none, false⟩,
      ⟨some 35, .call ⟨.builtin .len, ⟨[(.tmp 34)]⟩, ⟨[t_L_val_open]⟩⟩, none, false⟩,
      ⟨some 36, .binOp .eql t_int (.tmp 35) (.const (.int .i64 0)) t_int, none, false⟩,
      ⟨some 37, .move (.tmp 36), none, false⟩,
      ⟨some 38, .load t_api_Node (.tmp 5), some (some 37, false), false⟩,
      ⟨some 39, .call ⟨.value (.func f_val_isPlain), ⟨[(.tmp 38)]⟩, ⟨[t_api_Node]⟩⟩, some (some 37, false), false⟩,
      ⟨some 40, .unOp .not t_bool (.tmp 39), some (some 37, false), false⟩,
      ⟨some 41, .pick (.tmp 37) (.const (.bool true)) (.tmp 40), none, false⟩,
      ⟨some 42, .move (.tmp 41), none, false⟩,
      ⟨some 43, .fieldAddr t_api_Node (.tmp 5) 1, some (some 42, false), false⟩,
      ⟨some 44, .load t_int (.tmp 43), some (some 42, false), false⟩,
      ⟨some 45, .move (.tmp 0), some (some 42, false), false⟩,
      ⟨some 46, .call ⟨.builtin .len, ⟨[(.tmp 45)]⟩, ⟨[t_api_Val]⟩⟩, some (some 42, false), false⟩,
      ⟨some 47, .binOp .gtr t_int (.tmp 44) (.tmp 46) t_int, some (some 42, false), false⟩,
      ⟨some 48, .pick (.tmp 42) (.const (.bool true)) (.tmp 47), none, false⟩])
     (.cond (.tmp 48)
      (.seq (.reg [⟨some 2, .assign (.const (.bool false)), none, false⟩])
      .ret)
      .skip))
     (.seq (.reg [⟨some 49, .move (.tmp 3), none, false⟩,
      ⟨some 50, .move (.tmp 3), none, false⟩,
      ⟨some 51, .call ⟨.builtin .len, ⟨[(.tmp 50)]⟩, ⟨[t_L_val_open]⟩⟩, none, false⟩,
      ⟨some 52, .binOp .sub t_int (.tmp 51) (.const (.int .i64 1)) t_int, none, false⟩,
      ⟨some 53, .indexAddr t_L_val_open (.tmp 49) (.tmp 52), none, false⟩,
      ⟨some 6, .assign (.tmp 53), none, false⟩])
     (.seq (.reg [⟨some 54, .move (.tmp 6), none, false⟩,
      ⟨some 55, .nilCheck (.tmp 54), none, false⟩,
      ⟨some 56, .fieldAddr t_val_open (.tmp 55) 0, none, false⟩,
      ⟨some 57, .load t_int (.tmp 56), none, false⟩,
      ⟨some 58, .binOp .eql t_int (.tmp 57) (.const (.int .i64 6)) t_int, none, false⟩,
      ⟨some 7, .assign (.tmp 58), none, false⟩])
     (.seq (.block 4 (.seq (.reg [⟨some 60, .move (.tmp 7), none, false⟩,
       ⟨some 61, .unOp .not t_bool (.tmp 60), none, false⟩,
       ⟨some 62, .move (.tmp 61), none, false⟩,
       ⟨some 63, .fieldAddr t_api_Node (.tmp 5) 2, some (some 62, true), false⟩,
       ⟨some 64, .load t_string (.tmp 63), some (some 62, true), false⟩,
       ⟨some 65, .binOp .neq t_string (.tmp 64) (.const (.string ⟨⟨[]⟩⟩)) t_string, some (some 62, true), false⟩,
       ⟨some 66, .pick (.tmp 62) (.tmp 65) (.const (.bool false)), none, false⟩,
       ⟨some 59, .assign (.tmp 66), none, false⟩])
      (.cond (.tmp 59)
       (.seq (.reg [⟨some 2, .assign (.const (.bool false)), none, false⟩])
       .ret)
       (.seq (.draw [⟨some 68, .move (.tmp 7), none, false⟩,
        ⟨some 69, .move (.tmp 68), none, false⟩,
        ⟨some 70, .fieldAddr t_api_Node (.tmp 5) 2, some (some 69, true), false⟩,
        ⟨some 71, .load t_string (.tmp 70), some (some 69, true), false⟩,
        ⟨some 72, .call ⟨.value (.func f_unicode_utf8_ValidString), ⟨[(.tmp 71)]⟩, ⟨[t_string]⟩⟩, some (some 69, true), false⟩,
        ⟨some 73, .unOp .not t_bool (.tmp 72), some (some 69, true), false⟩,
        ⟨some 74, .move (.tmp 73), some (some 69, true), false⟩,
        ⟨some 75, .move (.tmp 6), some (some 74, false), false⟩,
        ⟨some 76, .nilCheck (.tmp 75), some (some 74, false), false⟩,
        ⟨some 77, .fieldAddr t_val_open (.tmp 76) 2, some (some 74, false), false⟩,
        ⟨some 78, .load t_bool (.tmp 77), some (some 74, false), false⟩,
        ⟨some 79, .unOp .not t_bool (.tmp 78), some (some 74, false), false⟩,
        ⟨some 80, .move (.tmp 79), some (some 74, false), false⟩,
        ⟨some 81, .fieldAddr t_api_Node (.tmp 5) 2, some (some 80, true), false⟩,
        ⟨some 82, .load t_string (.tmp 81), some (some 80, true), false⟩,
        ⟨some 83, .move (.tmp 6), some (some 80, true), false⟩,
        ⟨some 84, .nilCheck (.tmp 83), some (some 80, true), false⟩,
        ⟨some 85, .fieldAddr t_val_open (.tmp 84) 3, some (some 80, true), false⟩,
        ⟨some 86, .load t_string (.tmp 85), some (some 80, true), false⟩,
        ⟨some 87, .binOp .leq t_string (.tmp 82) (.tmp 86) t_string, some (some 80, true), false⟩,
        ⟨some 88, .pick (.tmp 80) (.tmp 87) (.const (.bool false)), some (some 74, false), false⟩,
        ⟨some 89, .pick (.tmp 74) (.const (.bool true)) (.tmp 88), some (some 69, true), false⟩,
        ⟨some 90, .pick (.tmp 69) (.tmp 89) (.const (.bool false)), none, false⟩,
        ⟨some 67, .assign (.tmp 90), none, false⟩]
       [0, 0, 0, 0, 0, 0, 0, 0, 0, 0, 0, 0, 0, 0, 0, 24576, 24576, 24576, 24576, 0, 0, 0, 0, 0])
       (.cond (.tmp 67)
        (.seq (.reg [⟨some 2, .assign (.const (.bool false)), none, false⟩])
        .ret)
        .skip)))))
     (.seq (.reg [⟨some 91, .move (.tmp 6), none, false⟩,
      ⟨some 92, .nilCheck (.tmp 91), none, false⟩,
      ⟨some 93, .fieldAddr t_val_open (.tmp 92) 1, none, false⟩,
      ⟨some 94, .load t_int (.tmp 93), none, false⟩,
      ⟨some 95, .binOp .sub t_int (.tmp 94) (.const (.int .i64 1)) t_int, none, false⟩,
      ⟨some 96, .nilCheck (.tmp 91), none, false⟩,
      ⟨some 97, .fieldAddr t_val_open (.tmp 96) 1, none, false⟩,
      ⟨none, .store t_int (.tmp 97) (.tmp 95), none, false⟩])
     (.seq (.draw [⟨some 98, .move (.tmp 6), none, false⟩,
      ⟨some 99, .move (.tmp 6), none, false⟩,
      ⟨some 100, .fieldAddr t_api_Node (.tmp 5) 2, none, false⟩,
      ⟨some 101, .load t_string (.tmp 100), none, false⟩,
      ⟨some 102, .nilCheck (.tmp 98), none, false⟩,
      ⟨some 103, .fieldAddr t_val_open (.tmp 102) 2, none, false⟩,
      ⟨none, .store t_bool (.tmp 103) (.const (.bool false)), none, false⟩,
      ⟨some 104, .nilCheck (.tmp 99), none, false⟩,
      ⟨some 105, .fieldAddr t_val_open (.tmp 104) 3, none, false⟩,
      ⟨none, .store t_string (.tmp 105) (.tmp 101), none, false⟩]
     [0, 1, 3, 3, 14, 14, 14, 0, 0, 0])
     (.reg [⟨some 106, .move (.tmp 3), none, false⟩,
      ⟨some 107, .fieldAddr t_api_Node (.tmp 5) 0, none, false⟩,
      ⟨some 108, .load t_int (.tmp 107), none, false⟩,
      ⟨some 109, .fieldAddr t_api_Node (.tmp 5) 1, none, false⟩,
      ⟨some 110, .load t_int (.tmp 109), none, false⟩,
      ⟨some 111, .build t_val_open ⟨[(0, (.tmp 108)), (1, (.tmp 110)), (2, (.const (.bool true)))]⟩, none, false⟩,
      ⟨some 112, .buildSlice t_L_val_open 1 ⟨[(0, (.tmp 111))]⟩, none, false⟩,
      ⟨some 113, .call ⟨.builtin .append, ⟨[(.tmp 106), (.tmp 112)]⟩, ⟨[t_L_val_open, t_L_val_open]⟩⟩, none, false⟩,
      ⟨some 3, .assign (.tmp 113), none, false⟩]))))))))))
    (.reg [⟨some 114, .binOp .add t_int (.tmp 12) (.const (.int .i64 1)) t_int, none, false⟩,
     ⟨some 12, .move (.tmp 114), none, false⟩])))))))
  (.seq (.weak (.reg [⟨some 115, .move (.tmp 0), none, false⟩,
   ⟨some 116, .call ⟨.builtin .len, ⟨[(.tmp 115)]⟩, ⟨[t_api_Val]⟩⟩, none, false⟩,
   ⟨some 117, .binOp .gtr t_int (.tmp 116) (.const (.int .i64 0)) t_int, none, false⟩,
   ⟨some 118, .move (.tmp 117), none, false⟩,
   ⟨some 119, .move (.tmp 3), some (some 118, true), false⟩,
   ⟨some 120, .call ⟨.value (.func f_slices_ContainsFunc_L_val_open_val_open_), ⟨[(.tmp 119), (.func f_val_Right_1)]⟩, ⟨[t_L_val_open, t_func_val_open__bool]⟩⟩, some (some 118, true), false⟩,
   ⟨some 121, .unOp .not t_bool (.tmp 120), some (some 118, true), false⟩,
   ⟨some 122, .pick (.tmp 118) (.tmp 121) (.const (.bool false)), none, false⟩,
   ⟨some 2, .assign (.tmp 122), none, false⟩]))
  .ret))))
theorem k_val_Right : FnOk Tryz.prog f_val_Right 123 [.tmp 2] qad := ⟨_, _, Tryz.func94, by kernel_rfl, rfl, Tryz.ntmps94, rfl, by kernel_rfl⟩
def q7b : LC :=
  (.seq (.reg [⟨some 1, .box t_val_open (.tmp 0), none, false⟩,
   ⟨some 2, .assign (.const (.bool false)), none, false⟩])
  (.seq (.reg [⟨some 3, .fieldAddr t_val_open (.tmp 1) 1, none, false⟩,
   ⟨some 4, .load t_int (.tmp 3), none, false⟩,
   ⟨some 5, .binOp .gtr t_int (.tmp 4) (.const (.int .i64 0)) t_int, none, false⟩,
   ⟨some 2, .assign (.tmp 5), none, false⟩])
  .ret))
theorem k_val_Right_1 : FnOk Tryz.prog f_val_Right_1 6 [.tmp 2] q7b := ⟨_, _, Tryz.func172, by kernel_rfl, rfl, Tryz.ntmps172, rfl, by kernel_rfl⟩
def q0u : LC :=
  (.seq (.reg [⟨some 4, .assign (.const (.bool false)), none, false⟩])
  (.seq (.reg [⟨some 5, .move (.tmp 0), none, false⟩,
   ⟨some 6, .move (.tmp 1), none, false⟩,
   ⟨some 7, .call ⟨.value (.func f_slices_IndexFunc_L_val_open_val_open_), ⟨[(.tmp 5), (.tmp 6)]⟩, ⟨[t_L_val_open, t_func_val_open__bool]⟩⟩, none, false⟩,
   ⟨some 8, .binOp .geq t_int (.tmp 7) (.const (.int .i64 0)) t_int, none, false⟩,
   ⟨some 4, .assign (.tmp 8), none, false⟩])
  .ret))
theorem k_slices_ContainsFunc_L_val_open_val_open_ : FnOk Tryz.prog f_slices_ContainsFunc_L_val_open_val_open_ 9 [.tmp 4] q0u := ⟨_, _, Tryz.func171, by kernel_rfl, rfl, Tryz.ntmps171, rfl, by kernel_rfl⟩
def q0z : LC :=
  (.seq (.reg [⟨some 4, .assign (.const (.int .i64 0)), none, false⟩])
  (.seq (.seq (.reg [⟨some 6, .move (.tmp 0), none, false⟩,
   ⟨some 7, .call ⟨.builtin .len, ⟨[(.tmp 6)]⟩, ⟨[t_L_val_open]⟩⟩, none, false⟩,
   ⟨some 8, .move (.const (.int .i64 0)), none, false⟩])
  (.block 0 (.loop [true, true, false, false, false, false, false, true, true, false, false, false, false, false, false, false, false, false, false] none
   (.seq (.reg [⟨some 9, .binOp .lss t_int (.tmp 8) (.tmp 7) t_int, none, false⟩])
    (.seq (.cond (.tmp 9)
     .skip
     (.exit 0))
    (.seq (.block 1 (.seq (.reg [⟨some 10, .move (.tmp 8), none, false⟩,
      ⟨some 5, .assign (.tmp 10), none, false⟩])
     (.seq (.reg [⟨some 11, .move (.tmp 1), none, false⟩,
      ⟨some 12, .move (.tmp 0), none, false⟩,
      ⟨some 13, .move (.tmp 5), none, false⟩,
      ⟨some 14, .indexAddr t_L_val_open (.tmp 12) (.tmp 13), none, false⟩,
      ⟨some 15, .load t_val_open (.tmp 14), none, false⟩,
      ⟨some 16, .call ⟨.value (.tmp 11), ⟨[(.tmp 15)]⟩, ⟨[t_val_open]⟩⟩, none, false⟩])
     (.cond (.tmp 16)
      (.seq (.reg [⟨some 17, .move (.tmp 5), none, false⟩,
       ⟨some 4, .assign (.tmp 17), none, false⟩])
      .ret)
      .skip))))
    (.reg [⟨some 18, .binOp .add t_int (.tmp 8) (.const (.int .i64 1)) t_int, none, false⟩,
     ⟨some 8, .move (.tmp 18), none, false⟩])))))))
  (.seq (.reg [⟨some 4, .assign (.const (.int .i64 (-1))), none, false⟩])
  .ret)))
theorem k_slices_IndexFunc_L_val_open_val_open_ : FnOk Tryz.prog f_slices_IndexFunc_L_val_open_val_open_ 19 [.tmp 4] q0z := ⟨_, _, Tryz.func227, by kernel_rfl, rfl, Tryz.ntmps227, rfl, by kernel_rfl⟩
end Lp

/-! LpC6 -/

namespace Lp
open Go Go.Proofs
def q10 : LC :=
  (.seq (.reg [⟨some 4, .assign (.const (.int .i64 0)), none, false⟩])
  (.seq (.seq (.reg [⟨some 6, .move (.tmp 0), none, false⟩,
   ⟨some 7, .call ⟨.builtin .len, ⟨[(.tmp 6)]⟩, ⟨[t_L_api_Atom]⟩⟩, none, false⟩,
   ⟨some 8, .move (.const (.int .i64 0)), none, false⟩])
  (.block 0 (.loop [true, true, false, false, false, false, false, true, true, false, false, false, false, false, false, false, false, false, false] none
   (.seq (.reg [⟨some 9, .binOp .lss t_int (.tmp 8) (.tmp 7) t_int, none, false⟩])
    (.seq (.cond (.tmp 9)
     .skip
     (.exit 0))
    (.seq (.block 1 (.seq (.reg [⟨some 10, .move (.tmp 8), none, false⟩,
      ⟨some 5, .assign (.tmp 10), none, false⟩])
     (.seq (.reg [⟨some 11, .move (.tmp 1), none, false⟩,
      ⟨some 12, .move (.tmp 0), none, false⟩,
      ⟨some 13, .move (.tmp 5), none, false⟩,
      ⟨some 14, .indexAddr t_L_api_Atom (.tmp 12) (.tmp 13), none, false⟩,
      ⟨some 15, .load t_api_Atom (.tmp 14), none, false⟩,
      ⟨some 16, .call ⟨.value (.tmp 11), ⟨[(.tmp 15)]⟩, ⟨[t_api_Atom]⟩⟩, none, false⟩])
     (.cond (.tmp 16)
      (.seq (.reg [⟨some 17, .move (.tmp 5), none, false⟩,
       ⟨some 4, .assign (.tmp 17), none, false⟩])
      .ret)
      .skip))))
    (.reg [⟨some 18, .binOp .add t_int (.tmp 8) (.const (.int .i64 1)) t_int, none, false⟩,
     ⟨some 8, .move (.tmp 18), none, false⟩])))))))
  (.seq (.reg [⟨some 4, .assign (.const (.int .i64 (-1))), none, false⟩])
  .ret)))
theorem k_slices_IndexFunc_L_api_Atom_api_Atom_ : FnOk Tryz.prog f_slices_IndexFunc_L_api_Atom_api_Atom_ 19 [.tmp 4] q10 := ⟨_, _, Tryz.func165, by kernel_rfl, rfl, Tryz.ntmps165, rfl, by kernel_rfl⟩
def q0v : LC :=
  (.seq (.reg [⟨some 4, .assign (.const (.bool false)), none, false⟩])
  (.seq (.reg [⟨some 5, .move (.tmp 0), none, false⟩,
   ⟨some 6, .move (.tmp 1), none, false⟩,
   ⟨some 7, .call ⟨.value (.func f_slices_IndexFunc_L_api_Atom_api_Atom_), ⟨[(.tmp 5), (.tmp 6)]⟩, ⟨[t_L_api_Atom, t_func_api_Atom__bool]⟩⟩, none, false⟩,
   ⟨some 8, .binOp .geq t_int (.tmp 7) (.const (.int .i64 0)) t_int, none, false⟩,
   ⟨some 4, .assign (.tmp 8), none, false⟩])
  .ret))
theorem k_slices_ContainsFunc_L_api_Atom_api_Atom_ : FnOk Tryz.prog f_slices_ContainsFunc_L_api_Atom_api_Atom_ 9 [.tmp 4] q0v := ⟨_, _, Tryz.func89, by kernel_rfl, rfl, Tryz.ntmps89, rfl, by kernel_rfl⟩
def q6d : LC :=
  (.seq (.reg [⟨some 1, .box t_api_Node (.tmp 0), none, false⟩,
   ⟨some 2, .assign (.const (.bool false)), none, false⟩])
  (.seq (.weak (.reg [⟨some 3, .fieldAddr t_api_Node (.tmp 1) 0, none, false⟩,
   ⟨some 4, .load t_int (.tmp 3), none, false⟩,
   ⟨some 5, .binOp .lss t_int (.tmp 4) (.const (.int .i64 5)) t_int, none, false⟩,
   ⟨some 6, .move (.tmp 5), none, false⟩,
   ⟨some 7, .load t_api_Node (.tmp 1), some (some 6, true), false⟩,
   ⟨some 8, .buildSlice t_api_Val 1 ⟨[(0, (.tmp 7))]⟩, some (some 6, true), false⟩,
   ⟨some 9, .call ⟨.value (.func f_val_Right), ⟨[(.tmp 8)]⟩, ⟨[t_api_Val]⟩⟩, some (some 6, true), false⟩,
   ⟨some 10, .pick (.tmp 6) (.tmp 9) (.const (.bool false)), none, false⟩,
   ⟨some 2, .assign (.tmp 10), none, false⟩]))
  .ret))
theorem k_atom_isPlain : FnOk Tryz.prog f_atom_isPlain 11 [.tmp 2] q6d := ⟨_, _, Tryz.func83, by kernel_rfl, rfl, Tryz.ntmps83, rfl, by kernel_rfl⟩
def q8n : LC :=
  (.seq (.reg [⟨some 1, .box t_api_Atom (.tmp 0), none, false⟩,
   ⟨some 2, .assign (.const (.bool false)), none, false⟩])
  (.seq (.weak (.reg [⟨some 3, .fieldAddr t_api_Atom (.tmp 1) 0, none, false⟩,
   ⟨some 4, .load t_int (.tmp 3), none, false⟩,
   ⟨some 5, .binOp .geq t_int (.tmp 4) (.const (.int .i64 0)) t_int, none, false⟩,
   ⟨some 6, .move (.tmp 5), none, false⟩,
   ⟨some 7, .fieldAddr t_api_Atom (.tmp 1) 0, some (some 6, true), false⟩,
   ⟨some 8, .load t_int (.tmp 7), some (some 6, true), false⟩,
   ⟨some 9, .binOp .leq t_int (.tmp 8) (.const (.int .i64 5)) t_int, some (some 6, true), false⟩,
   ⟨some 10, .pick (.tmp 6) (.tmp 9) (.const (.bool false)), none, false⟩,
   ⟨some 11, .move (.tmp 10), none, false⟩,
   ⟨some 12, .fieldAddr t_api_Atom (.tmp 1) 1, some (some 11, true), false⟩,
   ⟨some 13, .load t_api_Node (.tmp 12), some (some 11, true), false⟩,
   ⟨some 14, .call ⟨.value (.func f_atom_isPlain), ⟨[(.tmp 13)]⟩, ⟨[t_api_Node]⟩⟩, some (some 11, true), false⟩,
   ⟨some 15, .pick (.tmp 11) (.tmp 14) (.const (.bool false)), none, false⟩,
   ⟨some 2, .assign (.tmp 15), none, false⟩]))
  .ret))
theorem k_atom_Right : FnOk Tryz.prog f_atom_Right 16 [.tmp 2] q8n := ⟨_, _, Tryz.func23, by kernel_rfl, rfl, Tryz.ntmps23, rfl, by kernel_rfl⟩
def q8o : LC :=
  (.seq (.reg [⟨some 2, .box t_api_Atom (.tmp 0), none, false⟩,
   ⟨some 3, .box t_api_Node (.tmp 1), none, false⟩,
   ⟨some 4, .assign (.const (.bool false)), none, false⟩])
  (.seq (.weak (.reg [⟨some 6, .load t_api_Node (.tmp 3), none, false⟩,
   ⟨some 7, .buildSlice t_api_Val 1 ⟨[(0, (.tmp 6))]⟩, none, false⟩,
   ⟨some 8, .fieldAddr t_api_Atom (.tmp 2) 1, none, false⟩,
   ⟨some 9, .load t_api_Node (.tmp 8), none, false⟩,
   ⟨some 10, .buildSlice t_api_Val 1 ⟨[(0, (.tmp 9))]⟩, none, false⟩,
   ⟨some 11, .call ⟨.value (.func f_order_Cmp), ⟨[(.tmp 7), (.tmp 10)]⟩, ⟨[t_api_Val, t_api_Val]⟩⟩, none, false⟩,
   ⟨some 5, .assign (.tmp 11), none, false⟩]))
  (.seq (.seq (.reg [⟨some 12, .fieldAddr t_api_Atom (.tmp 2) 0, none, false⟩,
   ⟨some 13, .load t_int (.tmp 12), none, false⟩])
  (.block 0 (.seq (.reg [⟨some 15, .binOp .eql t_int (.tmp 13) (.const (.int .i64 0)) t_int, none, false⟩,
    ⟨some 14, .assign (.tmp 15), none, false⟩])
   (.cond (.tmp 14)
    (.seq (.reg [⟨some 16, .move (.tmp 5), none, false⟩,
     ⟨some 17, .binOp .eql t_int (.tmp 16) (.const (.int .i64 0)) t_int, none, false⟩,
     ⟨some 4, .assign (.tmp 17), none, false⟩])
    .ret)
    (.seq (.reg [⟨some 19, .binOp .eql t_int (.tmp 13) (.const (.int .i64 1)) t_int, none, false⟩,
     ⟨some 18, .assign (.tmp 19), none, false⟩])
    (.cond (.tmp 18)
     (.seq (.reg [⟨some 20, .move (.tmp 5), none, false⟩,
      ⟨some 21, .binOp .neq t_int (.tmp 20) (.const (.int .i64 0)) t_int, none, false⟩,
      ⟨some 4, .assign (.tmp 21), none, false⟩])
     .ret)
     (.seq (.reg [⟨some 23, .binOp .eql t_int (.tmp 13) (.const (.int .i64 2)) t_int, none, false⟩,
      ⟨some 22, .assign (.tmp 23), none, false⟩])
     (.cond (.tmp 22)
      (.seq (.reg [⟨some 24, .move (.tmp 5), none, false⟩,
       ⟨some 25, .binOp .lss t_int (.tmp 24) (.const (.int .i64 0)) t_int, none, false⟩,
       ⟨some 4, .assign (.tmp 25), none, false⟩])
      .ret)
      (.seq (.reg [⟨some 27, .binOp .eql t_int (.tmp 13) (.const (.int .i64 3)) t_int, none, false⟩,
       ⟨some 26, .assign (.tmp 27), none, false⟩])
      (.cond (.tmp 26)
       (.seq (.reg [⟨some 28, .move (.tmp 5), none, false⟩,
        ⟨some 29, .binOp .leq t_int (.tmp 28) (.const (.int .i64 0)) t_int, none, false⟩,
        ⟨some 4, .assign (.tmp 29), none, false⟩])
       .ret)
       (.seq (.reg [⟨some 31, .binOp .eql t_int (.tmp 13) (.const (.int .i64 4)) t_int, none, false⟩,
        ⟨some 30, .assign (.tmp 31), none, false⟩])
       (.cond (.tmp 30)
        (.seq (.reg [⟨some 32, .move (.tmp 5), none, false⟩,
         ⟨some 33, .binOp .gtr t_int (.tmp 32) (.const (.int .i64 0)) t_int, none, false⟩,
         ⟨some 4, .assign (.tmp 33), none, false⟩])
        .ret)
        .skip))))))))))))
  (.seq (.reg [⟨some 34, .move (.tmp 5), none, false⟩,
   ⟨some 35, .binOp .geq t_int (.tmp 34) (.const (.int .i64 0)) t_int, none, false⟩,
   ⟨some 4, .assign (.tmp 35), none, false⟩])
  .ret))))
theorem k_atom_Holds : FnOk Tryz.prog f_atom_Holds 36 [.tmp 4] q8o := ⟨_, _, Tryz.func27, by kernel_rfl, rfl, Tryz.ntmps27, rfl, by kernel_rfl⟩
def q7c : LC :=
  (.seq (.reg [⟨some 5, .box t_api_Node (.tmp 2), none, false⟩,
   ⟨some 6, .assign (.const (.bool false)), none, false⟩])
  (.seq (.seq (.weak (.reg [⟨some 7, .load t_api_Node (.tmp 5), none, false⟩,
   ⟨some 8, .call ⟨.value (.func f_atom_isPlain), ⟨[(.tmp 7)]⟩, ⟨[t_api_Node]⟩⟩, none, false⟩,
   ⟨some 9, .unOp .not t_bool (.tmp 8), none, false⟩,
   ⟨some 10, .move (.tmp 9), none, false⟩,
   ⟨some 11, .move (.tmp 0), some (some 10, false), false⟩,
   ⟨some 12, .fieldAddr t_api_Node (.tmp 5) 0, some (some 10, false), false⟩,
   ⟨some 13, .load t_int (.tmp 12), some (some 10, false), false⟩,
   ⟨some 14, .binOp .shr t_int (.tmp 11) (.tmp 13) t_int, some (some 10, false), false⟩,
   ⟨some 15, .binOp .and t_int (.tmp 14) (.const (.int .i64 1)) t_int, some (some 10, false), false⟩,
   ⟨some 16, .binOp .eql t_int (.tmp 15) (.const (.int .i64 0)) t_int, some (some 10, false), false⟩,
   ⟨some 17, .pick (.tmp 10) (.const (.bool true)) (.tmp 16), none, false⟩]))
  (.cond (.tmp 17)
   (.seq (.reg [⟨some 6, .assign (.const (.bool false)), none, false⟩])
   .ret)
   .skip))
  (.seq (.reg [⟨some 18, .move (.tmp 1), none, false⟩,
   ⟨some 19, .makeFunc (.func f_atom_Member_1) ⟨[]⟩ ⟨[(.tmp 5)]⟩, none, false⟩,
   ⟨some 20, .call ⟨.value (.func f_slices_ContainsFunc_L_api_Atom_api_Atom_), ⟨[(.tmp 18), (.tmp 19)]⟩, ⟨[t_L_api_Atom, t_func_api_Atom__bool]⟩⟩, none, false⟩,
   ⟨some 21, .unOp .not t_bool (.tmp 20), none, false⟩,
   ⟨some 6, .assign (.tmp 21), none, false⟩])
  .ret)))
theorem k_atom_Member : FnOk Tryz.prog f_atom_Member 22 [.tmp 6] q7c := ⟨_, _, Tryz.func31, by kernel_rfl, rfl, Tryz.ntmps31, rfl, by kernel_rfl⟩
def q5j : LC :=
  (.seq (.reg [⟨some 2, .box t_api_Atom (.tmp 0), none, false⟩,
   ⟨some 3, .assign (.const (.bool false)), none, false⟩])
  (.seq (.weak (.reg [⟨some 4, .load t_api_Atom (.tmp 2), none, false⟩,
   ⟨some 5, .load t_api_Node (.tmp 1), none, false⟩,
   ⟨some 6, .call ⟨.value (.func f_atom_Holds), ⟨[(.tmp 4), (.tmp 5)]⟩, ⟨[t_api_Atom, t_api_Node]⟩⟩, none, false⟩,
   ⟨some 7, .unOp .not t_bool (.tmp 6), none, false⟩,
   ⟨some 3, .assign (.tmp 7), none, false⟩]))
  .ret))
theorem k_atom_Member_1 : FnOk Tryz.prog f_atom_Member_1 8 [.tmp 3] q5j := ⟨_, _, Tryz.func90, by kernel_rfl, rfl, Tryz.ntmps90, rfl, by kernel_rfl⟩
def qae : LC :=
  (.seq (.reg [⟨some 2, .assign (.const (.int .i64 0)), none, false⟩])
  (.seq (.reg [⟨some 4, .makeMap t_map_int_int none, none, false⟩,
   ⟨none, .insert t_map_int_int (.tmp 4) (.const (.int .i64 0)) (.const (.int .i64 1)), none, false⟩,
   ⟨none, .insert t_map_int_int (.tmp 4) (.const (.int .i64 1)) (.const (.int .i64 0)), none, false⟩,
   ⟨none, .insert t_map_int_int (.tmp 4) (.const (.int .i64 2)) (.const (.int .i64 5)), none, false⟩,
   ⟨none, .insert t_map_int_int (.tmp 4) (.const (.int .i64 5)) (.const (.int .i64 2)), none, false⟩,
   ⟨none, .insert t_map_int_int (.tmp 4) (.const (.int .i64 3)) (.const (.int .i64 4)), none, false⟩,
   ⟨none, .insert t_map_int_int (.tmp 4) (.const (.int .i64 4)) (.const (.int .i64 3)), none, false⟩,
   ⟨some 5, .move (.tmp 4), none, false⟩,
   ⟨some 3, .assign (.tmp 5), none, false⟩])
  (.seq (.reg [⟨some 6, .move (.tmp 3), none, false⟩,
   ⟨some 7, .move (.tmp 0), none, false⟩,
   ⟨some 8, .lookup t_map_int_int (.tmp 6) (.tmp 7) false, none, false⟩,
   ⟨some 2, .assign (.tmp 8), none, false⟩])
  .ret)))
theorem k_atom_Turn : FnOk Tryz.prog f_atom_Turn 9 [.tmp 2] qae := ⟨_, _, Tryz.func29, by kernel_rfl, rfl, Tryz.ntmps29, rfl, by kernel_rfl⟩
def qaf : LC :=
  (.seq (.reg [⟨some 2, .assign (.const (.string ⟨⟨[]⟩⟩)), none, false⟩])
  (.seq (.reg [⟨some 5, .move (.tmp 0), none, false⟩,
   ⟨some 6, .call ⟨.value (.func f_strings_TrimRight), ⟨[(.tmp 5), (.const (.string ⟨⟨[57]⟩⟩))]⟩, ⟨[t_string, t_string]⟩⟩, none, false⟩,
   ⟨some 7, .call ⟨.builtin .len, ⟨[(.tmp 6)]⟩, ⟨[t_string]⟩⟩, none, false⟩,
   ⟨some 3, .assign (.tmp 7), none, false⟩])
  (.seq (.reg [⟨some 8, .move (.tmp 0), none, false⟩,
   ⟨some 9, .call ⟨.builtin .len, ⟨[(.tmp 8)]⟩, ⟨[t_string]⟩⟩, none, false⟩,
   ⟨some 10, .move (.tmp 3), none, false⟩,
   ⟨some 11, .binOp .sub t_int (.tmp 9) (.tmp 10) t_int, none, false⟩,
   ⟨some 12, .call ⟨.value (.func f_strings_Repeat), ⟨[(.const (.string ⟨⟨[48]⟩⟩)), (.tmp 11)]⟩, ⟨[t_string, t_int]⟩⟩, none, false⟩,
   ⟨some 4, .assign (.tmp 12), none, false⟩])
  (.seq (.seq (.reg [⟨some 13, .move (.tmp 3), none, false⟩,
   ⟨some 14, .binOp .eql t_int (.tmp 13) (.const (.int .i64 0)) t_int, none, false⟩])
  (.cond (.tmp 14)
   (.seq (.reg [⟨some 15, .move (.tmp 4), none, false⟩,
    ⟨some 16, .binOp .add t_string (.const (.string ⟨⟨[49]⟩⟩)) (.tmp 15) t_string, none, false⟩,
    ⟨some 2, .assign (.tmp 16), none, false⟩])
   .ret)
   .skip))
  (.seq (.draw [⟨some 17, .move (.tmp 0), none, false⟩,
   ⟨some 18, .move (.tmp 3), none, false⟩,
   ⟨some 19, .binOp .sub t_int (.tmp 18) (.const (.int .i64 1)) t_int, none, false⟩,
   ⟨some 20, .slice t_string (.tmp 17) none (some (.tmp 19)) none, none, false⟩,
   ⟨some 21, .move (.tmp 0), none, false⟩,
   ⟨some 22, .move (.tmp 3), none, false⟩,
   ⟨some 23, .binOp .sub t_int (.tmp 22) (.const (.int .i64 1)) t_int, none, false⟩,
   ⟨some 24, .index t_string (.tmp 21) (.tmp 23), none, false⟩,
   ⟨some 25, .binOp .add t_uint8 (.tmp 24) (.const (.int .u8 1)) t_uint8, none, false⟩,
   ⟨some 26, .convert t_uint8 t_int32 (.tmp 25), none, false⟩,
   ⟨some 27, .convert t_int32 t_string (.tmp 26), none, false⟩,
   ⟨some 28, .binOp .add t_string (.tmp 20) (.tmp 27) t_string, none, false⟩,
   ⟨some 29, .move (.tmp 4), none, false⟩,
   ⟨some 30, .binOp .add t_string (.tmp 28) (.tmp 29) t_string, none, false⟩,
   ⟨some 2, .assign (.tmp 30), none, false⟩]
  [0, 1, 1, 0, 15, 31, 31, 15, 15, 15, 15, 0, 4095, 0, 0])
  .ret)))))
theorem k_atom_up : FnOk Tryz.prog f_atom_up 31 [.tmp 2] qaf := ⟨_, _, Tryz.func152, by kernel_rfl, rfl, Tryz.ntmps152, rfl, by kernel_rfl⟩
def qag : LC :=
  (.seq (.reg [⟨some 2, .assign (.const (.string ⟨⟨[]⟩⟩)), none, false⟩])
  (.seq (.reg [⟨some 4, .move (.tmp 0), none, false⟩,
   ⟨some 5, .call ⟨.value (.func f_strings_TrimRight), ⟨[(.tmp 4), (.const (.string ⟨⟨[48]⟩⟩))]⟩, ⟨[t_string, t_string]⟩⟩, none, false⟩,
   ⟨some 6, .call ⟨.builtin .len, ⟨[(.tmp 5)]⟩, ⟨[t_string]⟩⟩, none, false⟩,
   ⟨some 3, .assign (.tmp 6), none, false⟩])
  (.seq (.draw [⟨some 7, .move (.tmp 0), none, false⟩,
   ⟨some 8, .move (.tmp 3), none, false⟩,
   ⟨some 9, .binOp .sub t_int (.tmp 8) (.const (.int .i64 1)) t_int, none, false⟩,
   ⟨some 10, .slice t_string (.tmp 7) none (some (.tmp 9)) none, none, false⟩,
   ⟨some 11, .move (.tmp 0), none, false⟩,
   ⟨some 12, .move (.tmp 3), none, false⟩,
   ⟨some 13, .binOp .sub t_int (.tmp 12) (.const (.int .i64 1)) t_int, none, false⟩,
   ⟨some 14, .index t_string (.tmp 11) (.tmp 13), none, false⟩,
   ⟨some 15, .binOp .sub t_uint8 (.tmp 14) (.const (.int .u8 1)) t_uint8, none, false⟩,
   ⟨some 16, .convert t_uint8 t_int32 (.tmp 15), none, false⟩,
   ⟨some 17, .convert t_int32 t_string (.tmp 16), none, false⟩,
   ⟨some 18, .binOp .add t_string (.tmp 10) (.tmp 17) t_string, none, false⟩,
   ⟨some 19, .move (.tmp 0), none, false⟩,
   ⟨some 20, .call ⟨.builtin .len, ⟨[(.tmp 19)]⟩, ⟨[t_string]⟩⟩, none, false⟩,
   ⟨some 21, .move (.tmp 3), none, false⟩,
   ⟨some 22, .binOp .sub t_int (.tmp 20) (.tmp 21) t_int, none, false⟩,
   ⟨some 23, .call ⟨.value (.func f_strings_Repeat), ⟨[(.const (.string ⟨⟨[57]⟩⟩)), (.tmp 22)]⟩, ⟨[t_string, t_int]⟩⟩, none, false⟩,
   ⟨some 24, .binOp .add t_string (.tmp 18) (.tmp 23) t_string, none, false⟩,
   ⟨some 2, .assign (.tmp 24), none, false⟩]
  [0, 1, 1, 0, 15, 31, 31, 15, 15, 15, 15, 0, 4095, 4095, 16383, 4095, 4095, 0, 0])
  .ret)))
theorem k_atom_down : FnOk Tryz.prog f_atom_down 25 [.tmp 2] qag := ⟨_, _, Tryz.func153, by kernel_rfl, rfl, Tryz.ntmps153, rfl, by kernel_rfl⟩
def q2d : LC :=
  (.seq (.reg [⟨some 2, .box t_api_Node (.tmp 0), none, false⟩,
   ⟨some 4, .alloc t_api_Node, none, false⟩,
   ⟨some 5, .assign (.const (.bool false)), none, false⟩])
  (.seq (.seq (.reg [⟨some 13, .fieldAddr t_api_Node (.tmp 2) 3, none, false⟩,
   ⟨some 14, .load t_string (.tmp 13), none, false⟩,
   ⟨some 15, .binOp .eql t_string (.tmp 14) (.const (.string ⟨⟨[]⟩⟩)) t_string, none, false⟩])
  (.cond (.tmp 15)
   (.seq (.reg [⟨some 17, .move (.tmp 1), none, false⟩,
    ⟨some 18, .unOp .not t_bool (.tmp 17), none, false⟩,
    ⟨some 19, .call ⟨.value (.func f_num_Make), ⟨[(.tmp 18), (.const (.string ⟨⟨[49]⟩⟩)), (.const (.int .i64 (-1000)))]⟩, ⟨[t_bool, t_string, t_int]⟩⟩, none, false⟩,
    ⟨some 16, .move (.tmp 19), none, false⟩,
    ⟨some 20, .extract (.tmp 16) 0, none, false⟩,
    ⟨some 21, .extract (.tmp 16) 1, none, false⟩,
    ⟨some 6, .alloc t_api_Node, none, false⟩,
    ⟨none, .store t_api_Node (.tmp 6) (.tmp 20), none, false⟩,
    ⟨some 7, .assign (.tmp 21), none, false⟩])
   (.seq (.reg [⟨some 22, .load t_api_Node (.tmp 6), none, false⟩,
    ⟨some 23, .move (.tmp 7), none, false⟩,
    ⟨some 24, .binOp .eql t_api_Errno (.tmp 23) (.const (.int .i64 0)) t_api_Errno, none, false⟩,
    ⟨none, .store t_api_Node (.tmp 4) (.tmp 22), none, false⟩,
    ⟨some 5, .assign (.tmp 24), none, false⟩])
   .ret))
   .skip))
  (.seq (.draw [⟨some 25, .fieldAddr t_api_Node (.tmp 2) 3, none, false⟩,
   ⟨some 26, .load t_string (.tmp 25), none, false⟩,
   ⟨some 27, .call ⟨.builtin .len, ⟨[(.tmp 26)]⟩, ⟨[t_string]⟩⟩, none, false⟩,
   ⟨some 28, .fieldAddr t_api_Node (.tmp 2) 5, none, false⟩,
   ⟨some 29, .load t_int (.tmp 28), none, false⟩,
   ⟨some 30, .binOp .add t_int (.tmp 27) (.tmp 29) t_int, none, false⟩,
   ⟨some 8, .assign (.func f_atom_up), none, false⟩,
   ⟨some 9, .assign (.tmp 30), none, false⟩]
  [0, 0, 0, 7, 7, 0, 63, 0])
  (.seq (.seq (.reg [⟨some 31, .fieldAddr t_api_Node (.tmp 2) 4, none, false⟩,
   ⟨some 32, .load t_bool (.tmp 31), none, false⟩,
   ⟨some 33, .move (.tmp 1), none, false⟩,
   ⟨some 34, .binOp .eql t_bool (.tmp 32) (.tmp 33) t_bool, none, false⟩])
  (.cond (.tmp 34)
   (.seq (.reg [⟨some 8, .assign (.func f_atom_down), none, false⟩])
   (.seq (.reg [⟨some 35, .fieldAddr t_api_Node (.tmp 2) 3, none, false⟩,
    ⟨some 36, .load t_string (.tmp 35), none, false⟩,
    ⟨some 37, .binOp .eql t_string (.tmp 36) (.const (.string ⟨⟨[49]⟩⟩)) t_string, none, false⟩])
   (.cond (.tmp 37)
    (.reg [⟨some 38, .move (.tmp 9), none, false⟩,
     ⟨some 39, .binOp .sub t_int (.tmp 38) (.const (.int .i64 1)) t_int, none, false⟩,
     ⟨some 9, .assign (.tmp 39), none, false⟩])
    .skip)))
   .skip))
  (.seq (.reg [⟨some 40, .move (.tmp 9), none, false⟩,
   ⟨some 41, .binOp .sub t_int (.tmp 40) (.const (.int .i64 100)) t_int, none, false⟩,
   ⟨some 42, .call ⟨.builtin .max, ⟨[(.tmp 41), (.const (.int .i64 (-1000)))]⟩, ⟨[t_int, t_int]⟩⟩, none, false⟩,
   ⟨some 10, .assign (.tmp 42), none, false⟩])
  (.seq (.draw [⟨some 44, .fieldAddr t_api_Node (.tmp 2) 4, none, false⟩,
   ⟨some 45, .load t_bool (.tmp 44), none, false⟩,
   ⟨some 46, .move (.tmp 8), none, false⟩,
   ⟨some 47, .fieldAddr t_api_Node (.tmp 2) 3, none, false⟩,
   ⟨some 48, .load t_string (.tmp 47), none, false⟩,
   ⟨some 49, .fieldAddr t_api_Node (.tmp 2) 5, none, false⟩,
   ⟨some 50, .load t_int (.tmp 49), none, false⟩,
   ⟨some 51, .move (.tmp 10), none, false⟩,
   ⟨some 52, .binOp .sub t_int (.tmp 50) (.tmp 51) t_int, none, false⟩,
   ⟨some 53, .call ⟨.value (.func f_strings_Repeat), ⟨[(.const (.string ⟨⟨[48]⟩⟩)), (.tmp 52)]⟩, ⟨[t_string, t_int]⟩⟩, none, false⟩,
   ⟨some 54, .binOp .add t_string (.tmp 48) (.tmp 53) t_string, none, false⟩,
   ⟨some 55, .call ⟨.value (.tmp 46), ⟨[(.tmp 54)]⟩, ⟨[t_string]⟩⟩, none, false⟩,
   ⟨some 56, .move (.tmp 10), none, false⟩,
   ⟨some 57, .call ⟨.value (.func f_num_Make), ⟨[(.tmp 45), (.tmp 55), (.tmp 56)]⟩, ⟨[t_bool, t_string, t_int]⟩⟩, none, false⟩,
   ⟨some 43, .move (.tmp 57), none, false⟩,
   ⟨some 58, .extract (.tmp 43) 0, none, false⟩,
   ⟨some 59, .extract (.tmp 43) 1, none, false⟩,
   ⟨some 11, .alloc t_api_Node, none, false⟩,
   ⟨none, .store t_api_Node (.tmp 11) (.tmp 58), none, false⟩,
   ⟨some 12, .assign (.tmp 59), none, false⟩]
  [0, 0, 3, 7, 7, 31, 31, 127, 31, 31, 7, 3, 4095, 0, 0, 0, 32768, 131071, 65536, 0])
  (.seq (.reg [⟨some 60, .load t_api_Node (.tmp 11), none, false⟩,
   ⟨some 61, .move (.tmp 12), none, false⟩,
   ⟨some 62, .binOp .eql t_api_Errno (.tmp 61) (.const (.int .i64 0)) t_api_Errno, none, false⟩,
   ⟨none, .store t_api_Node (.tmp 4) (.tmp 60), none, false⟩,
   ⟨some 5, .assign (.tmp 62), none, false⟩])
  .ret)))))))
theorem k_atom_Beside : FnOk Tryz.prog f_atom_Beside 63 [.cell 4 t_api_Node, .tmp 5] q2d := ⟨_, _, Tryz.func81, by kernel_rfl, rfl, Tryz.ntmps81, rfl, by kernel_rfl⟩
def q4i : LC :=
  (.seq (.reg [⟨some 1, .box t_L_api_Atom (.tmp 0), none, false⟩,
   ⟨some 2, .assign (.const (.nilFunc)), none, false⟩])
  (.seq (.weak (.reg [⟨some 3, .makeFunc (.func f_atom_candidates_1) ⟨[]⟩ ⟨[(.tmp 1)]⟩, none, false⟩,
   ⟨some 2, .assign (.tmp 3), none, false⟩]))
  .ret))
theorem k_atom_candidates : FnOk Tryz.prog f_atom_candidates 4 [.tmp 2] q4i := ⟨_, _, Tryz.func155, by kernel_rfl, rfl, Tryz.ntmps155, rfl, by kernel_rfl⟩
def q3h : LC :=
  (.seq (.reg [⟨some 14, .build t_api_Node ⟨[(0, (.const (.int .i64 0)))]⟩, none, false⟩,
   ⟨some 15, .build t_api_Node ⟨[(0, (.const (.int .i64 1)))]⟩, none, false⟩,
   ⟨some 16, .build t_api_Node ⟨[(0, (.const (.int .i64 2)))]⟩, none, false⟩,
   ⟨some 17, .build t_api_Node ⟨[(0, (.const (.int .i64 3)))]⟩, none, false⟩,
   ⟨some 18, .buildSlice t_L_api_Node 4 ⟨[(0, (.tmp 14)), (1, (.tmp 15)), (2, (.tmp 16)), (3, (.tmp 17))]⟩, none, true⟩,
   ⟨some 3, .assign (.tmp 18), none, false⟩])
  (.seq (.seq (.reg [⟨some 19, .load t_L_api_Atom (.tmp 1), none, false⟩,
   ⟨some 20, .call ⟨.builtin .len, ⟨[(.tmp 19)]⟩, ⟨[t_L_api_Atom]⟩⟩, none, false⟩,
   ⟨some 21, .move (.const (.int .i64 0)), none, false⟩])
  (.block 0 (.loop [true, true, false, true, false, false, false, false, false, false, false, false, false, false, false, false, false, false, false, true, true, true, false, false, false, false, false, false, false, false, false, false, false, false, false, false, false, false, false, false, false, false, false, false, false, false, false, false, false, false, false, false, false, false, false, false, false, false, false, false, false, false, false, false, false, false, false, false, false, false, false, false, false, false, false, false, false, false, false, false, false, false, false, false, false, false, false, false, false, false] none
   (.seq (.reg [⟨some 22, .binOp .lss t_int (.tmp 21) (.tmp 20) t_int, none, false⟩])
    (.seq (.cond (.tmp 22)
     .skip
     (.exit 0))
    (.seq (.block 1 (.seq (.reg [⟨some 23, .indexAddr t_L_api_Atom (.tmp 19) (.tmp 21), none, false⟩,
      ⟨some 24, .load t_api_Atom (.tmp 23), none, false⟩,
      ⟨some 5, .alloc t_api_Atom, none, false⟩,
      ⟨none, .store t_api_Atom (.tmp 5) (.tmp 24), none, false⟩])
     (.seq (.seq (.reg [⟨some 25, .fieldAddr t_api_Atom (.tmp 5) 1, none, false⟩,
      ⟨some 26, .fieldAddr t_api_Node (.tmp 25) 0, none, false⟩,
      ⟨some 27, .load t_int (.tmp 26), none, false⟩,
      ⟨some 28, .binOp .neq t_int (.tmp 27) (.const (.int .i64 3)) t_int, none, false⟩])
     (.cond (.tmp 28)
      (.exit 1)
      .skip))
     (.seq (.reg [⟨some 29, .move (.tmp 3), none, false⟩,
      ⟨some 30, .fieldAddr t_api_Atom (.tmp 5) 1, none, false⟩,
      ⟨some 31, .load t_api_Node (.tmp 30), none, false⟩,
      ⟨some 32, .buildSlice t_L_api_Node 1 ⟨[(0, (.tmp 31))]⟩, none, false⟩,
      ⟨some 33, .call ⟨.builtin .append, ⟨[(.tmp 29), (.tmp 32)]⟩, ⟨[t_L_api_Node, t_L_api_Node]⟩⟩, none, false⟩,
      ⟨some 3, .assign (.tmp 33), none, false⟩])
     (.seq (.weak (.reg [⟨some 34, .buildSlice t_L_bool 2 ⟨[(0, (.const (.bool true))), (1, (.const (.bool false)))]⟩, none, false⟩,
      ⟨some 35, .call ⟨.builtin .len, ⟨[(.tmp 34)]⟩, ⟨[t_L_bool]⟩⟩, none, false⟩,
      ⟨some 36, .move (.const (.int .i64 0)), none, false⟩]))
     (.block 2 (.loop [true, true, false, true, false, true, false, false, false, false, false, false, false, false, false, false, false, false, false, true, true, true, false, false, false, false, false, false, false, false, false, false, false, false, true, true, true, false, false, false, false, false, false, false, false, false, false, false, false, false, false, false, false, false, false, false, false, false, false, false, false, false, false, false, false, false, false, false, false, false, false, false, false, false, false, false, false, false, false, false, false, false, false, false, false, false, false, false, false, false] none
      (.seq (.reg [⟨some 37, .binOp .lss t_int (.tmp 36) (.tmp 35) t_int, none, false⟩])
       (.seq (.cond (.tmp 37)
        .skip
        (.exit 2))
       (.seq (.block 3 (.seq (.reg [⟨some 38, .indexAddr t_L_bool (.tmp 34) (.tmp 36), none, false⟩,
         ⟨some 39, .load t_bool (.tmp 38), none, false⟩,
         ⟨some 7, .assign (.tmp 39), none, false⟩])
        (.seq (.reg [⟨some 41, .fieldAddr t_api_Atom (.tmp 5) 1, none, false⟩,
         ⟨some 42, .load t_api_Node (.tmp 41), none, false⟩,
         ⟨some 43, .move (.tmp 7), none, false⟩,
         ⟨some 44, .call ⟨.value (.func f_atom_Beside), ⟨[(.tmp 42), (.tmp 43)]⟩, ⟨[t_api_Node, t_bool]⟩⟩, none, false⟩,
         ⟨some 40, .move (.tmp 44), none, false⟩,
         ⟨some 45, .extract (.tmp 40) 0, none, false⟩,
         ⟨some 46, .extract (.tmp 40) 1, none, false⟩,
         ⟨some 8, .alloc t_api_Node, none, false⟩,
         ⟨none, .store t_api_Node (.tmp 8) (.tmp 45), none, false⟩,
         ⟨some 9, .assign (.tmp 46), none, false⟩])
        (.seq (.reg [⟨some 47, .move (.tmp 9), none, false⟩])
        (.cond (.tmp 47)
         (.reg [⟨some 48, .move (.tmp 3), none, false⟩,
          ⟨some 49, .load t_api_Node (.tmp 8), none, false⟩,
          ⟨some 50, .buildSlice t_L_api_Node 1 ⟨[(0, (.tmp 49))]⟩, none, false⟩,
          ⟨some 51, .call ⟨.builtin .append, ⟨[(.tmp 48), (.tmp 50)]⟩, ⟨[t_L_api_Node, t_L_api_Node]⟩⟩, none, false⟩,
          ⟨some 3, .assign (.tmp 51), none, false⟩])
         .skip)))))
       (.weak (.reg [⟨some 52, .binOp .add t_int (.tmp 36) (.const (.int .i64 1)) t_int, none, false⟩,
        ⟨some 36, .move (.tmp 52), none, false⟩]))))))))))))
    (.weak (.reg [⟨some 53, .binOp .add t_int (.tmp 21) (.const (.int .i64 1)) t_int, none, false⟩,
     ⟨some 21, .move (.tmp 53), none, false⟩]))))))))
  (.seq (.reg [⟨some 54, .move (.tmp 3), none, false⟩,
   ⟨some 55, .build t_api_Node ⟨[(0, (.const (.int .i64 4)))]⟩, none, false⟩,
   ⟨some 56, .buildSlice t_L_api_Node 1 ⟨[(0, (.tmp 55))]⟩, none, false⟩,
   ⟨some 57, .call ⟨.builtin .append, ⟨[(.tmp 54), (.tmp 56)]⟩, ⟨[t_L_api_Node, t_L_api_Node]⟩⟩, none, false⟩,
   ⟨some 3, .assign (.tmp 57), none, false⟩])
  (.seq (.seq (.reg [⟨some 58, .load t_L_api_Atom (.tmp 1), none, false⟩,
   ⟨some 59, .call ⟨.builtin .len, ⟨[(.tmp 58)]⟩, ⟨[t_L_api_Atom]⟩⟩, none, false⟩,
   ⟨some 60, .move (.const (.int .i64 0)), none, false⟩])
  (.block 4 (.loop [true, false, false, true, false, false, false, false, false, false, false, false, false, false, false, false, false, false, false, false, false, false, false, false, false, false, false, false, false, false, false, false, false, false, false, false, false, false, false, false, false, false, false, false, false, false, false, false, false, false, false, false, false, false, false, false, false, false, true, true, true, false, false, false, false, false, false, false, false, false, false, false, false, false, false, false, false, false, false, false, false, false, false, false, false, false, false, false, false, false] none
   (.seq (.reg [⟨some 61, .binOp .lss t_int (.tmp 60) (.tmp 59) t_int, none, false⟩])
    (.seq (.cond (.tmp 61)
     .skip
     (.exit 4))
    (.seq (.block 5 (.seq (.reg [⟨some 62, .indexAddr t_L_api_Atom (.tmp 58) (.tmp 60), none, false⟩,
      ⟨some 63, .load t_api_Atom (.tmp 62), none, false⟩,
      ⟨some 11, .alloc t_api_Atom, none, false⟩,
      ⟨none, .store t_api_Atom (.tmp 11) (.tmp 63), none, false⟩])
     (.seq (.reg [⟨some 64, .fieldAddr t_api_Atom (.tmp 11) 1, none, false⟩,
      ⟨some 65, .fieldAddr t_api_Node (.tmp 64) 0, none, false⟩,
      ⟨some 66, .load t_int (.tmp 65), none, false⟩,
      ⟨some 67, .binOp .eql t_int (.tmp 66) (.const (.int .i64 4)) t_int, none, false⟩])
     (.cond (.tmp 67)
      (.reg [⟨some 68, .move (.tmp 3), none, false⟩,
       ⟨some 69, .fieldAddr t_api_Atom (.tmp 11) 1, none, false⟩,
       ⟨some 70, .load t_api_Node (.tmp 69), none, false⟩,
       ⟨some 71, .fieldAddr t_api_Atom (.tmp 11) 1, none, false⟩,
       ⟨some 72, .fieldAddr t_api_Node (.tmp 71) 3, none, false⟩,
       ⟨some 73, .load t_string (.tmp 72), none, false⟩,
       ⟨some 74, .binOp .add t_string (.tmp 73) (.const (.string ⟨⟨[0]⟩⟩)) t_string, none, false⟩,
       ⟨some 75, .build t_api_Node ⟨[(0, (.const (.int .i64 4))), (3, (.tmp 74))]⟩, none, false⟩,
       ⟨some 76, .buildSlice t_L_api_Node 2 ⟨[(0, (.tmp 70)), (1, (.tmp 75))]⟩, none, false⟩,
       ⟨some 77, .call ⟨.builtin .append, ⟨[(.tmp 68), (.tmp 76)]⟩, ⟨[t_L_api_Node, t_L_api_Node]⟩⟩, none, false⟩,
       ⟨some 3, .assign (.tmp 77), none, false⟩])
      .skip))))
    (.weak (.reg [⟨some 78, .binOp .add t_int (.tmp 60) (.const (.int .i64 1)) t_int, none, false⟩,
     ⟨some 60, .move (.tmp 78), none, false⟩]))))))))
  (.seq (.weak (.reg [⟨some 79, .move (.tmp 3), none, false⟩,
   ⟨some 80, .call ⟨.builtin .len, ⟨[(.tmp 79)]⟩, ⟨[t_L_api_Node]⟩⟩, none, false⟩,
   ⟨some 81, .move (.const (.int .i64 0)), none, false⟩]))
  (.block 6 (.loop [true, false, false, false, false, false, false, false, false, false, false, false, false, false, false, false, false, false, false, false, false, false, false, false, false, false, false, false, false, false, false, false, false, false, false, false, false, false, false, false, false, false, false, false, false, false, false, false, false, false, false, false, false, false, false, false, false, false, false, false, false, false, false, false, false, false, false, false, false, false, false, false, false, false, false, false, false, false, false, true, true, true, false, false, false, false, false, false, false, false] none
   (.seq (.reg [⟨some 82, .binOp .lss t_int (.tmp 81) (.tmp 80) t_int, none, false⟩])
    (.seq (.cond (.tmp 82)
     .skip
     (.exit 6))
    (.seq (.block 7 (.seq (.reg [⟨some 83, .indexAddr t_L_api_Node (.tmp 79) (.tmp 81), none, false⟩,
      ⟨some 84, .load t_api_Node (.tmp 83), none, false⟩,
      ⟨some 13, .alloc t_api_Node, none, false⟩,
      ⟨none, .store t_api_Node (.tmp 13) (.tmp 84), none, false⟩])
     (.seq (.weak (.reg [⟨some 85, .move (.tmp 0), none, false⟩,
      ⟨some 86, .load t_api_Node (.tmp 13), none, false⟩,
      ⟨some 87, .call ⟨.value (.tmp 85), ⟨[(.tmp 86)]⟩, ⟨[t_api_Node]⟩⟩, none, false⟩,
      ⟨some 88, .unOp .not t_bool (.tmp 87), none, false⟩]))
     (.cond (.tmp 88)
      .ret
      .skip))))
    (.reg [⟨some 89, .binOp .add t_int (.tmp 81) (.const (.int .i64 1)) t_int, none, false⟩,
     ⟨some 81, .move (.tmp 89), none, false⟩])))))))))))
theorem k_atom_candidates_1 : FnOk Tryz.prog f_atom_candidates_1 90 [] q3h := ⟨_, _, Tryz.func217, by kernel_rfl, rfl, Tryz.ntmps217, rfl, by kernel_rfl⟩
def q8p : LC :=
  (.seq (.reg [⟨some 2, .box t_int (.tmp 0), none, false⟩,
   ⟨some 3, .box t_L_api_Atom (.tmp 1), none, false⟩,
   ⟨some 4, .alloc t_api_Node, none, false⟩,
   ⟨some 5, .alloc t_bool, none, false⟩])
  (.seq (.seq (.reg [⟨some 7, .load t_L_api_Atom (.tmp 3), none, false⟩,
   ⟨some 8, .call ⟨.value (.func f_atom_candidates), ⟨[(.tmp 7)]⟩, ⟨[t_L_api_Atom]⟩⟩, none, false⟩])
  (.block 0 (.rf (.tmp 8) [9] (some (1, 6))
    (.reg [⟨some 6, .alloc t_api_Node, none, false⟩,
     ⟨none, .store t_api_Node (.tmp 6) (.tmp 9), none, false⟩])
    (.block 1 (.seq (.reg [⟨some 10, .load t_int (.tmp 2), none, false⟩,
      ⟨some 11, .load t_L_api_Atom (.tmp 3), none, false⟩,
      ⟨some 12, .load t_api_Node (.tmp 6), none, false⟩,
      ⟨some 13, .call ⟨.value (.func f_atom_Member), ⟨[(.tmp 10), (.tmp 11), (.tmp 12)]⟩, ⟨[t_int, t_L_api_Atom, t_api_Node]⟩⟩, none, false⟩])
     (.cond (.tmp 13)
      (.seq (.reg [⟨some 14, .load t_api_Node (.tmp 6), none, false⟩,
       ⟨none, .store t_api_Node (.tmp 4) (.tmp 14), none, false⟩,
       ⟨none, .store t_bool (.tmp 5) (.const (.bool true)), none, false⟩])
      .ret)
      .skip))))))
  (.seq (.reg [⟨some 15, .build t_api_Node ⟨[]⟩, none, false⟩,
   ⟨none, .store t_api_Node (.tmp 4) (.tmp 15), none, false⟩,
   ⟨none, .store t_bool (.tmp 5) (.const (.bool false)), none, false⟩])
  .ret)))
theorem k_atom_Least : FnOk Tryz.prog f_atom_Least 16 [.cell 4 t_api_Node, .cell 5 t_bool] q8p := ⟨_, _, Tryz.func82, by kernel_rfl, rfl, Tryz.ntmps82, rfl, by kernel_rfl⟩
def q29 : LC :=
  (.seq (.reg [⟨some 6, .alloc t_api_Node, none, false⟩,
   ⟨some 7, .assign (.const (.int .i64 0)), none, false⟩])
  (.seq (.seq (.reg [⟨some 10, .move (.tmp 1), none, false⟩,
   ⟨some 11, .call ⟨.value (.func f_num_isFigures), ⟨[(.tmp 10)]⟩, ⟨[t_string]⟩⟩, none, false⟩,
   ⟨some 12, .unOp .not t_bool (.tmp 11), none, false⟩])
  (.cond (.tmp 12)
   (.seq (.reg [⟨some 13, .build t_api_Node ⟨[]⟩, none, false⟩,
    ⟨none, .store t_api_Node (.tmp 6) (.tmp 13), none, false⟩,
    ⟨some 7, .assign (.const (.int .i64 4)), none, false⟩])
   .ret)
   .skip))
  (.seq (.reg [⟨some 14, .move (.tmp 1), none, false⟩,
   ⟨some 15, .call ⟨.value (.func f_strings_TrimLeft), ⟨[(.tmp 14), (.const (.string ⟨⟨[48]⟩⟩))]⟩, ⟨[t_string, t_string]⟩⟩, none, false⟩,
   ⟨some 8, .assign (.tmp 15), none, false⟩])
  (.seq (.seq (.reg [⟨some 16, .move (.tmp 8), none, false⟩,
   ⟨some 17, .binOp .eql t_string (.tmp 16) (.const (.string ⟨⟨[]⟩⟩)) t_string, none, false⟩])
  (.cond (.tmp 17)
   (.seq (.reg [⟨some 18, .build t_api_Node ⟨[(0, (.const (.int .i64 3)))]⟩, none, false⟩,
    ⟨none, .store t_api_Node (.tmp 6) (.tmp 18), none, false⟩,
    ⟨some 7, .assign (.const (.int .i64 0)), none, false⟩])
   .ret)
   .skip))
  (.seq (.seq (.reg [⟨some 19, .move (.tmp 2), none, false⟩,
   ⟨some 20, .binOp .lss t_int (.tmp 19) (.const (.int .i64 (-100000000))) t_int, none, false⟩,
   ⟨some 21, .move (.tmp 20), none, false⟩,
   ⟨some 22, .move (.tmp 2), some (some 21, false), false⟩,
   ⟨some 23, .binOp .gtr t_int (.tmp 22) (.const (.int .i64 100000000)) t_int, some (some 21, false), false⟩,
   ⟨some 24, .pick (.tmp 21) (.const (.bool true)) (.tmp 23), none, false⟩])
  (.cond (.tmp 24)
   (.seq (.reg [⟨some 25, .build t_api_Node ⟨[]⟩, none, false⟩,
    ⟨none, .store t_api_Node (.tmp 6) (.tmp 25), none, false⟩,
    ⟨some 7, .assign (.const (.int .i64 2)), none, false⟩])
   .ret)
   .skip))
  (.seq (.reg [⟨some 26, .move (.tmp 8), none, false⟩,
   ⟨some 27, .call ⟨.value (.func f_strings_TrimRight), ⟨[(.tmp 26), (.const (.string ⟨⟨[48]⟩⟩))]⟩, ⟨[t_string, t_string]⟩⟩, none, false⟩,
   ⟨some 9, .assign (.tmp 27), none, false⟩])
  (.seq (.reg [⟨some 28, .move (.tmp 2), none, false⟩,
   ⟨some 29, .move (.tmp 8), none, false⟩,
   ⟨some 30, .call ⟨.builtin .len, ⟨[(.tmp 29)]⟩, ⟨[t_string]⟩⟩, none, false⟩,
   ⟨some 31, .move (.tmp 9), none, false⟩,
   ⟨some 32, .call ⟨.builtin .len, ⟨[(.tmp 31)]⟩, ⟨[t_string]⟩⟩, none, false⟩,
   ⟨some 33, .binOp .sub t_int (.tmp 30) (.tmp 32) t_int, none, false⟩,
   ⟨some 34, .binOp .add t_int (.tmp 28) (.tmp 33) t_int, none, false⟩,
   ⟨some 2, .assign (.tmp 34), none, false⟩])
  (.seq (.seq (.reg [⟨some 35, .move (.tmp 9), none, false⟩,
   ⟨some 36, .call ⟨.builtin .len, ⟨[(.tmp 35)]⟩, ⟨[t_string]⟩⟩, none, false⟩,
   ⟨some 37, .binOp .gtr t_int (.tmp 36) (.const (.int .i64 100)) t_int, none, false⟩,
   ⟨some 38, .move (.tmp 37), none, false⟩,
   ⟨some 39, .move (.tmp 9), some (some 38, false), false⟩,
   ⟨some 40, .call ⟨.builtin .len, ⟨[(.tmp 39)]⟩, ⟨[t_string]⟩⟩, some (some 38, false), false⟩,
   ⟨some 41, .move (.tmp 2), some (some 38, false), false⟩,
   ⟨some 42, .call ⟨.value (.func f_num_isPower), ⟨[(.tmp 40), (.tmp 41)]⟩, ⟨[t_int, t_int]⟩⟩, some (some 38, false), false⟩,
   ⟨some 43, .unOp .not t_bool (.tmp 42), some (some 38, false), false⟩,
   ⟨some 44, .pick (.tmp 38) (.const (.bool true)) (.tmp 43), none, false⟩])
  (.cond (.tmp 44)
   (.seq (.reg [⟨some 45, .build t_api_Node ⟨[]⟩, none, false⟩,
    ⟨none, .store t_api_Node (.tmp 6) (.tmp 45), none, false⟩,
    ⟨some 7, .assign (.const (.int .i64 2)), none, false⟩])
   .ret)
   .skip))
  (.seq (.reg [⟨some 46, .move (.tmp 9), none, false⟩,
   ⟨some 47, .move (.tmp 0), none, false⟩,
   ⟨some 48, .move (.tmp 2), none, false⟩,
   ⟨some 49, .build t_api_Node ⟨[(0, (.const (.int .i64 3))), (3, (.tmp 46)), (4, (.tmp 47)), (5, (.tmp 48))]⟩, none, false⟩,
   ⟨none, .store t_api_Node (.tmp 6) (.tmp 49), none, false⟩,
   ⟨some 7, .assign (.const (.int .i64 0)), none, false⟩])
  .ret)))))))))
theorem k_num_Make : FnOk Tryz.prog f_num_Make 50 [.cell 6 t_api_Node, .tmp 7] q29 := ⟨_, _, Tryz.func151, by kernel_rfl, rfl, Tryz.ntmps151, rfl, by kernel_rfl⟩
def q0x : LC :=
  (.seq (.reg [⟨some 4, .assign (.const (.bool false)), none, false⟩])
  (.seq (.seq (.reg [⟨some 5, .move (.tmp 0), none, false⟩])
  (.block 0 (.seq (.reg [⟨some 7, .binOp .eql t_int (.tmp 5) (.const (.int .i64 0)) t_int, none, false⟩,
    ⟨some 6, .assign (.tmp 7), none, false⟩])
   (.cond (.tmp 6)
    (.seq (.reg [⟨some 8, .move (.tmp 1), none, false⟩,
     ⟨some 9, .binOp .eql t_int (.tmp 8) (.const (.int .i64 0)) t_int, none, false⟩,
     ⟨some 4, .assign (.tmp 9), none, false⟩])
    .ret)
    (.seq (.reg [⟨some 11, .binOp .eql t_int (.tmp 5) (.const (.int .i64 1)) t_int, none, false⟩,
     ⟨some 10, .assign (.tmp 11), none, false⟩])
    (.cond (.tmp 10)
     (.seq (.reg [⟨some 12, .move (.tmp 1), none, false⟩,
      ⟨some 13, .binOp .neq t_int (.tmp 12) (.const (.int .i64 0)) t_int, none, false⟩,
      ⟨some 4, .assign (.tmp 13), none, false⟩])
     .ret)
     (.seq (.reg [⟨some 15, .binOp .eql t_int (.tmp 5) (.const (.int .i64 2)) t_int, none, false⟩,
      ⟨some 14, .assign (.tmp 15), none, false⟩])
     (.cond (.tmp 14)
      (.seq (.reg [⟨some 16, .move (.tmp 1), none, false⟩,
       ⟨some 17, .binOp .lss t_int (.tmp 16) (.const (.int .i64 0)) t_int, none, false⟩,
       ⟨some 4, .assign (.tmp 17), none, false⟩])
      .ret)
      (.seq (.reg [⟨some 19, .binOp .eql t_int (.tmp 5) (.const (.int .i64 3)) t_int, none, false⟩,
       ⟨some 18, .assign (.tmp 19), none, false⟩])
      (.cond (.tmp 18)
       (.seq (.reg [⟨some 20, .move (.tmp 1), none, false⟩,
        ⟨some 21, .binOp .leq t_int (.tmp 20) (.const (.int .i64 0)) t_int, none, false⟩,
        ⟨some 4, .assign (.tmp 21), none, false⟩])
       .ret)
       (.seq (.reg [⟨some 23, .binOp .eql t_int (.tmp 5) (.const (.int .i64 4)) t_int, none, false⟩,
        ⟨some 22, .assign (.tmp 23), none, false⟩])
       (.cond (.tmp 22)
        (.seq (.reg [⟨some 24, .move (.tmp 1), none, false⟩,
         ⟨some 25, .binOp .gtr t_int (.tmp 24) (.const (.int .i64 0)) t_int, none, false⟩,
         ⟨some 4, .assign (.tmp 25), none, false⟩])
        .ret)
        .skip))))))))))))
  (.seq (.reg [⟨some 26, .move (.tmp 1), none, false⟩,
   ⟨some 27, .binOp .geq t_int (.tmp 26) (.const (.int .i64 0)) t_int, none, false⟩,
   ⟨some 4, .assign (.tmp 27), none, false⟩])
  .ret)))
theorem k_louperef10_Says : FnOk Tryz.prog f_louperef10_Says 28 [.tmp 4] q0x := ⟨_, _, Tryz.func87, by kernel_rfl, rfl, Tryz.ntmps87, rfl, by kernel_rfl⟩
def q3z : LC :=
  (.seq (.reg [⟨some 1, .box t_api_Node (.tmp 0), none, false⟩,
   ⟨some 2, .assign (.const (.bool false)), none, false⟩])
  (.seq (.weak (.reg [⟨some 3, .fieldAddr t_api_Node (.tmp 1) 0, none, false⟩,
   ⟨some 4, .load t_int (.tmp 3), none, false⟩,
   ⟨some 5, .binOp .lss t_int (.tmp 4) (.const (.int .i64 5)) t_int, none, false⟩,
   ⟨some 6, .move (.tmp 5), none, false⟩,
   ⟨some 7, .load t_api_Node (.tmp 1), some (some 6, true), false⟩,
   ⟨some 8, .buildSlice t_api_Val 1 ⟨[(0, (.tmp 7))]⟩, some (some 6, true), false⟩,
   ⟨some 9, .call ⟨.value (.func f_louperef02_Right), ⟨[(.tmp 8)]⟩, ⟨[t_api_Val]⟩⟩, some (some 6, true), false⟩,
   ⟨some 10, .pick (.tmp 6) (.tmp 9) (.const (.bool false)), none, false⟩,
   ⟨some 2, .assign (.tmp 10), none, false⟩]))
  .ret))
theorem k_louperef11_plain : FnOk Tryz.prog f_louperef11_plain 11 [.tmp 2] q3z := ⟨_, _, Tryz.func84, by kernel_rfl, rfl, Tryz.ntmps84, rfl, by kernel_rfl⟩
def q40 : LC :=
  (.seq (.reg [⟨some 1, .box t_api_Atom (.tmp 0), none, false⟩,
   ⟨some 2, .assign (.const (.bool false)), none, false⟩])
  (.seq (.weak (.reg [⟨some 3, .fieldAddr t_api_Atom (.tmp 1) 0, none, false⟩,
   ⟨some 4, .load t_int (.tmp 3), none, false⟩,
   ⟨some 5, .binOp .geq t_int (.tmp 4) (.const (.int .i64 0)) t_int, none, false⟩,
   ⟨some 6, .move (.tmp 5), none, false⟩,
   ⟨some 7, .fieldAddr t_api_Atom (.tmp 1) 0, some (some 6, true), false⟩,
   ⟨some 8, .load t_int (.tmp 7), some (some 6, true), false⟩,
   ⟨some 9, .binOp .leq t_int (.tmp 8) (.const (.int .i64 5)) t_int, some (some 6, true), false⟩,
   ⟨some 10, .pick (.tmp 6) (.tmp 9) (.const (.bool false)), none, false⟩,
   ⟨some 11, .move (.tmp 10), none, false⟩,
   ⟨some 12, .fieldAddr t_api_Atom (.tmp 1) 1, some (some 11, true), false⟩,
   ⟨some 13, .load t_api_Node (.tmp 12), some (some 11, true), false⟩,
   ⟨some 14, .call ⟨.value (.func f_louperef11_plain), ⟨[(.tmp 13)]⟩, ⟨[t_api_Node]⟩⟩, some (some 11, true), false⟩,
   ⟨some 15, .pick (.tmp 11) (.tmp 14) (.const (.bool false)), none, false⟩,
   ⟨some 2, .assign (.tmp 15), none, false⟩]))
  .ret))
theorem k_louperef11_Right : FnOk Tryz.prog f_louperef11_Right 16 [.tmp 2] q40 := ⟨_, _, Tryz.func24, by kernel_rfl, rfl, Tryz.ntmps24, rfl, by kernel_rfl⟩
def q56 : LC :=
  (.seq (.reg [⟨some 4, .assign (.const (.bool false)), none, false⟩])
  (.seq (.seq (.reg [⟨some 5, .assign (.const (.int .i64 0)), none, false⟩])
  (.block 0 (.loop [true, true, false, false, false, true, false, false, false, false, false, false, false, false, false, false, false, false, false, false, false, false, false, false, false, false, false, false, false, false, false, false, false] none
   (.seq (.seq (.reg [⟨some 6, .move (.tmp 5), none, false⟩,
     ⟨some 7, .move (.tmp 0), none, false⟩,
     ⟨some 8, .call ⟨.builtin .len, ⟨[(.tmp 7)]⟩, ⟨[t_L_api_Atom]⟩⟩, none, false⟩,
     ⟨some 9, .binOp .lss t_int (.tmp 6) (.tmp 8) t_int, none, false⟩])
    (.cond (.tmp 9)
     .skip
     (.exit 0)))
    (.seq (.block 1 (.seq (.reg [⟨some 12, .move (.tmp 5), none, false⟩,
      ⟨some 13, .move (.tmp 1), none, false⟩,
      ⟨some 14, .binOp .geq t_int (.tmp 12) (.tmp 13) t_int, none, false⟩,
      ⟨some 15, .move (.tmp 14), none, false⟩,
      ⟨some 16, .move (.tmp 0), some (some 15, false), false⟩,
      ⟨some 17, .move (.tmp 5), some (some 15, false), false⟩,
      ⟨some 18, .indexAddr t_L_api_Atom (.tmp 16) (.tmp 17), some (some 15, false), false⟩,
      ⟨some 19, .fieldAddr t_api_Atom (.tmp 18) 1, some (some 15, false), false⟩,
      ⟨some 20, .fieldAddr t_api_Node (.tmp 19) 3, some (some 15, false), false⟩,
      ⟨some 21, .load t_string (.tmp 20), some (some 15, false), false⟩,
      ⟨some 22, .call ⟨.builtin .len, ⟨[(.tmp 21)]⟩, ⟨[t_string]⟩⟩, some (some 15, false), false⟩,
      ⟨some 23, .binOp .gtr t_int (.tmp 22) (.const (.int .i64 200)) t_int, some (some 15, false), false⟩,
      ⟨some 24, .pick (.tmp 15) (.const (.bool true)) (.tmp 23), none, false⟩,
      ⟨some 25, .move (.tmp 24), none, false⟩,
      ⟨some 26, .move (.tmp 0), some (some 25, false), false⟩,
      ⟨some 27, .move (.tmp 5), some (some 25, false), false⟩,
      ⟨some 28, .indexAddr t_L_api_Atom (.tmp 26) (.tmp 27), some (some 25, false), false⟩,
      ⟨some 29, .load t_api_Atom (.tmp 28), some (some 25, false), false⟩,
      ⟨some 30, .call ⟨.value (.func f_louperef11_Right), ⟨[(.tmp 29)]⟩, ⟨[t_api_Atom]⟩⟩, some (some 25, false), false⟩,
      ⟨some 31, .unOp .not t_bool (.tmp 30), some (some 25, false), false⟩,
      ⟨some 32, .pick (.tmp 25) (.const (.bool true)) (.tmp 31), none, false⟩])
     (.cond (.tmp 32)
      (.seq (.reg [⟨some 4, .assign (.const (.bool false)), none, false⟩])
      .ret)
      .skip)))
    (.reg [⟨some 10, .move (.tmp 5), none, false⟩,
     ⟨some 11, .binOp .add t_int (.tmp 10) (.const (.int .i64 1)) t_int, none, false⟩,
     ⟨some 5, .assign (.tmp 11), none, false⟩]))))))
  (.seq (.reg [⟨some 4, .assign (.const (.bool true)), none, false⟩])
  .ret)))
theorem k_louperef11_All : FnOk Tryz.prog f_louperef11_All 33 [.tmp 4] q56 := ⟨_, _, Tryz.func25, by kernel_rfl, rfl, Tryz.ntmps25, rfl, by kernel_rfl⟩
def q41 : LC :=
  (.seq (.reg [⟨some 2, .box t_api_Atom (.tmp 0), none, false⟩,
   ⟨some 3, .box t_api_Node (.tmp 1), none, false⟩,
   ⟨some 4, .assign (.const (.bool false)), none, false⟩])
  (.seq (.weak (.draw [⟨some 5, .fieldAddr t_api_Atom (.tmp 2) 0, none, false⟩,
   ⟨some 6, .load t_int (.tmp 5), none, false⟩,
   ⟨some 7, .load t_api_Node (.tmp 3), none, false⟩,
   ⟨some 8, .buildSlice t_api_Val 1 ⟨[(0, (.tmp 7))]⟩, none, false⟩,
   ⟨some 9, .fieldAddr t_api_Atom (.tmp 2) 1, none, false⟩,
   ⟨some 10, .load t_api_Node (.tmp 9), none, false⟩,
   ⟨some 11, .buildSlice t_api_Val 1 ⟨[(0, (.tmp 10))]⟩, none, false⟩,
   ⟨some 12, .call ⟨.value (.func f_louperef05_Cmp), ⟨[(.tmp 8), (.tmp 11)]⟩, ⟨[t_api_Val, t_api_Val]⟩⟩, none, false⟩,
   ⟨some 13, .call ⟨.value (.func f_louperef10_Says), ⟨[(.tmp 6), (.tmp 12)]⟩, ⟨[t_int, t_int]⟩⟩, none, false⟩,
   ⟨some 4, .assign (.tmp 13), none, false⟩]
  [0, 0, 3, 3, 15, 15, 15, 3, 0, 0]))
  .ret))
theorem k_louperef11_Holds : FnOk Tryz.prog f_louperef11_Holds 14 [.tmp 4] q41 := ⟨_, _, Tryz.func28, by kernel_rfl, rfl, Tryz.ntmps28, rfl, by kernel_rfl⟩
def q4j : LC :=
  (.seq (.reg [⟨some 4, .assign (.const (.bool false)), none, false⟩])
  (.seq (.seq (.reg [⟨some 5, .assign (.const (.int .i64 0)), none, false⟩])
  (.block 0 (.loop [true, true, false, false, false, true, false, false, false, false, false, false, false, false, false, false] none
   (.seq (.seq (.reg [⟨some 6, .move (.tmp 5), none, false⟩,
     ⟨some 7, .move (.tmp 1), none, false⟩,
     ⟨some 8, .binOp .lss t_int (.tmp 6) (.tmp 7) t_int, none, false⟩])
    (.cond (.tmp 8)
     .skip
     (.exit 0)))
    (.seq (.block 1 (.reg [⟨some 11, .move (.tmp 0), none, false⟩,
      ⟨some 12, .binOp .quo t_int (.tmp 11) (.const (.int .i64 2)) t_int, none, false⟩,
      ⟨some 0, .assign (.tmp 12), none, false⟩]))
    (.reg [⟨some 9, .move (.tmp 5), none, false⟩,
     ⟨some 10, .binOp .add t_int (.tmp 9) (.const (.int .i64 1)) t_int, none, false⟩,
     ⟨some 5, .assign (.tmp 10), none, false⟩]))))))
  (.seq (.reg [⟨some 13, .move (.tmp 0), none, false⟩,
   ⟨some 14, .binOp .rem t_int (.tmp 13) (.const (.int .i64 2)) t_int, none, false⟩,
   ⟨some 15, .binOp .eql t_int (.tmp 14) (.const (.int .i64 1)) t_int, none, false⟩,
   ⟨some 4, .assign (.tmp 15), none, false⟩])
  .ret)))
theorem k_louperef11_Lets : FnOk Tryz.prog f_louperef11_Lets 16 [.tmp 4] q4j := ⟨_, _, Tryz.func85, by kernel_rfl, rfl, Tryz.ntmps85, rfl, by kernel_rfl⟩
def q3i : LC :=
  (.seq (.reg [⟨some 5, .box t_api_Node (.tmp 2), none, false⟩,
   ⟨some 6, .assign (.const (.bool false)), none, false⟩])
  (.seq (.seq (.weak (.reg [⟨some 8, .load t_api_Node (.tmp 5), none, false⟩,
   ⟨some 9, .call ⟨.value (.func f_louperef11_plain), ⟨[(.tmp 8)]⟩, ⟨[t_api_Node]⟩⟩, none, false⟩,
   ⟨some 10, .unOp .not t_bool (.tmp 9), none, false⟩,
   ⟨some 11, .move (.tmp 10), none, false⟩,
   ⟨some 12, .move (.tmp 0), some (some 11, false), false⟩,
   ⟨some 13, .fieldAddr t_api_Node (.tmp 5) 0, some (some 11, false), false⟩,
   ⟨some 14, .load t_int (.tmp 13), some (some 11, false), false⟩,
   ⟨some 15, .call ⟨.value (.func f_louperef11_Lets), ⟨[(.tmp 12), (.tmp 14)]⟩, ⟨[t_int, t_int]⟩⟩, some (some 11, false), false⟩,
   ⟨some 16, .unOp .not t_bool (.tmp 15), some (some 11, false), false⟩,
   ⟨some 17, .pick (.tmp 11) (.const (.bool true)) (.tmp 16), none, false⟩]))
  (.cond (.tmp 17)
   (.seq (.reg [⟨some 6, .assign (.const (.bool false)), none, false⟩])
   .ret)
   .skip))
  (.seq (.seq (.reg [⟨some 7, .assign (.const (.int .i64 0)), none, false⟩])
  (.block 0 (.loop [false, true, false, false, false, true, false, true, false, false, false, false, false, false, false, false, false, false, false, false, false, false, false, false, false, false, false, false, false, false, false] none
   (.seq (.seq (.reg [⟨some 18, .move (.tmp 7), none, false⟩,
     ⟨some 19, .move (.tmp 1), none, false⟩,
     ⟨some 20, .call ⟨.builtin .len, ⟨[(.tmp 19)]⟩, ⟨[t_L_api_Atom]⟩⟩, none, false⟩,
     ⟨some 21, .binOp .lss t_int (.tmp 18) (.tmp 20) t_int, none, false⟩])
    (.cond (.tmp 21)
     .skip
     (.exit 0)))
    (.seq (.block 1 (.seq (.draw [⟨some 24, .move (.tmp 1), none, false⟩,
      ⟨some 25, .move (.tmp 7), none, false⟩,
      ⟨some 26, .indexAddr t_L_api_Atom (.tmp 24) (.tmp 25), none, false⟩,
      ⟨some 27, .load t_api_Atom (.tmp 26), none, false⟩,
      ⟨some 28, .load t_api_Node (.tmp 5), none, false⟩,
      ⟨some 29, .call ⟨.value (.func f_louperef11_Holds), ⟨[(.tmp 27), (.tmp 28)]⟩, ⟨[t_api_Atom, t_api_Node]⟩⟩, none, false⟩,
      ⟨some 30, .unOp .not t_bool (.tmp 29), none, false⟩]
     [0, 1, 0, 0, 15, 0, 0])
     (.cond (.tmp 30)
      (.seq (.reg [⟨some 6, .assign (.const (.bool false)), none, false⟩])
      .ret)
      .skip)))
    (.reg [⟨some 22, .move (.tmp 7), none, false⟩,
     ⟨some 23, .binOp .add t_int (.tmp 22) (.const (.int .i64 1)) t_int, none, false⟩,
     ⟨some 7, .assign (.tmp 23), none, false⟩]))))))
  (.seq (.reg [⟨some 6, .assign (.const (.bool true)), none, false⟩])
  .ret))))
theorem k_louperef11_Member : FnOk Tryz.prog f_louperef11_Member 31 [.tmp 6] q3i := ⟨_, _, Tryz.func26, by kernel_rfl, rfl, Tryz.ntmps26, rfl, by kernel_rfl⟩
def q42 : LC :=
  (.seq (.reg [⟨some 0, .assign (.const (.bool false)), none, false⟩])
  (.seq (.reg [⟨some 8, .build t_api_Node ⟨[(0, (.const (.int .i64 3))), (3, (.const (.string ⟨⟨[49]⟩⟩)))]⟩, none, false⟩,
   ⟨some 1, .alloc t_api_Node, none, false⟩,
   ⟨none, .store t_api_Node (.tmp 1) (.tmp 8), none, false⟩])
  (.seq (.reg [⟨some 10, .load t_api_Node (.tmp 1), none, false⟩,
   ⟨some 11, .call ⟨.value (.func f_atom_Beside), ⟨[(.tmp 10), (.const (.bool true))]⟩, ⟨[t_api_Node, t_bool]⟩⟩, none, false⟩,
   ⟨some 9, .move (.tmp 11), none, false⟩,
   ⟨some 12, .extract (.tmp 9) 0, none, false⟩,
   ⟨some 13, .extract (.tmp 9) 1, none, false⟩,
   ⟨some 2, .alloc t_api_Node, none, false⟩,
   ⟨none, .store t_api_Node (.tmp 2) (.tmp 12), none, false⟩,
   ⟨some 3, .assign (.tmp 13), none, false⟩])
  (.seq (.reg [⟨some 15, .load t_api_Node (.tmp 1), none, false⟩,
   ⟨some 16, .build t_api_Atom ⟨[(0, (.const (.int .i64 4))), (1, (.tmp 15))]⟩, none, false⟩,
   ⟨some 17, .buildSlice t_L_api_Atom 1 ⟨[(0, (.tmp 16))]⟩, none, false⟩,
   ⟨some 18, .call ⟨.value (.func f_atom_Least), ⟨[(.const (.int .i64 8)), (.tmp 17)]⟩, ⟨[t_int, t_L_api_Atom]⟩⟩, none, false⟩,
   ⟨some 14, .move (.tmp 18), none, false⟩,
   ⟨some 19, .extract (.tmp 14) 0, none, false⟩,
   ⟨some 20, .extract (.tmp 14) 1, none, false⟩,
   ⟨some 4, .alloc t_api_Node, none, false⟩,
   ⟨none, .store t_api_Node (.tmp 4) (.tmp 19), none, false⟩,
   ⟨some 5, .assign (.tmp 20), none, false⟩])
  (.seq (.reg [⟨some 22, .load t_api_Node (.tmp 1), none, false⟩,
   ⟨some 23, .build t_api_Atom ⟨[(0, (.const (.int .i64 4))), (1, (.tmp 22))]⟩, none, false⟩,
   ⟨some 24, .load t_api_Node (.tmp 1), none, false⟩,
   ⟨some 25, .build t_api_Atom ⟨[(0, (.const (.int .i64 2))), (1, (.tmp 24))]⟩, none, false⟩,
   ⟨some 26, .buildSlice t_L_api_Atom 2 ⟨[(0, (.tmp 23)), (1, (.tmp 25))]⟩, none, false⟩,
   ⟨some 27, .call ⟨.value (.func f_atom_Least), ⟨[(.const (.int .i64 8)), (.tmp 26)]⟩, ⟨[t_int, t_L_api_Atom]⟩⟩, none, false⟩,
   ⟨some 21, .move (.tmp 27), none, false⟩,
   ⟨some 28, .extract (.tmp 21) 0, none, false⟩,
   ⟨some 29, .extract (.tmp 21) 1, none, false⟩,
   ⟨some 6, .alloc t_api_Node, none, false⟩,
   ⟨none, .store t_api_Node (.tmp 6) (.tmp 28), none, false⟩,
   ⟨some 7, .assign (.tmp 29), none, false⟩])
  (.seq (.reg [⟨some 30, .move (.tmp 3), none, false⟩,
   ⟨some 31, .move (.tmp 30), none, false⟩,
   ⟨some 32, .fieldAddr t_api_Node (.tmp 2) 3, some (some 31, true), false⟩,
   ⟨some 33, .load t_string (.tmp 32), some (some 31, true), false⟩,
   ⟨some 34, .call ⟨.builtin .len, ⟨[(.tmp 33)]⟩, ⟨[t_string]⟩⟩, some (some 31, true), false⟩,
   ⟨some 35, .binOp .eql t_int (.tmp 34) (.const (.int .i64 100)) t_int, some (some 31, true), false⟩,
   ⟨some 36, .pick (.tmp 31) (.tmp 35) (.const (.bool false)), none, false⟩,
   ⟨some 37, .move (.tmp 36), none, false⟩,
   ⟨some 38, .fieldAddr t_api_Node (.tmp 2) 5, some (some 37, true), false⟩,
   ⟨some 39, .load t_int (.tmp 38), some (some 37, true), false⟩,
   ⟨some 40, .binOp .eql t_int (.tmp 39) (.const (.int .i64 (-99))) t_int, some (some 37, true), false⟩,
   ⟨some 41, .pick (.tmp 37) (.tmp 40) (.const (.bool false)), none, false⟩,
   ⟨some 42, .move (.tmp 41), none, false⟩,
   ⟨some 43, .move (.tmp 5), some (some 42, true), false⟩,
   ⟨some 44, .pick (.tmp 42) (.tmp 43) (.const (.bool false)), none, false⟩,
   ⟨some 45, .move (.tmp 44), none, false⟩,
   ⟨some 46, .load t_api_Node (.tmp 4), some (some 45, true), false⟩,
   ⟨some 47, .load t_api_Node (.tmp 2), some (some 45, true), false⟩,
   ⟨some 48, .binOp .eql t_api_Node (.tmp 46) (.tmp 47) t_api_Node, some (some 45, true), false⟩,
   ⟨some 49, .pick (.tmp 45) (.tmp 48) (.const (.bool false)), none, false⟩,
   ⟨some 50, .move (.tmp 49), none, false⟩,
   ⟨some 51, .move (.tmp 7), some (some 50, true), false⟩,
   ⟨some 52, .unOp .not t_bool (.tmp 51), some (some 50, true), false⟩,
   ⟨some 53, .pick (.tmp 50) (.tmp 52) (.const (.bool false)), none, false⟩,
   ⟨some 54, .move (.tmp 53), none, false⟩,
   ⟨some 55, .load t_api_Node (.tmp 1), some (some 54, true), false⟩,
   ⟨some 56, .build t_api_Atom ⟨[(1, (.tmp 55))]⟩, some (some 54, true), false⟩,
   ⟨some 57, .load t_api_Node (.tmp 1), some (some 54, true), false⟩,
   ⟨some 58, .call ⟨.value (.func f_atom_Holds), ⟨[(.tmp 56), (.tmp 57)]⟩, ⟨[t_api_Atom, t_api_Node]⟩⟩, some (some 54, true), false⟩,
   ⟨some 59, .pick (.tmp 54) (.tmp 58) (.const (.bool false)), none, false⟩,
   ⟨some 60, .move (.tmp 59), none, false⟩,
   ⟨some 61, .load t_api_Node (.tmp 1), some (some 60, true), false⟩,
   ⟨some 62, .call ⟨.value (.func f_atom_Member), ⟨[(.const (.int .i64 8)), (.const (.slice none 0 0)), (.tmp 61)]⟩, ⟨[t_int, t_L_api_Atom, t_api_Node]⟩⟩, some (some 60, true), false⟩,
   ⟨some 63, .pick (.tmp 60) (.tmp 62) (.const (.bool false)), none, false⟩,
   ⟨some 64, .move (.tmp 63), none, false⟩,
   ⟨some 65, .call ⟨.value (.func f_atom_Turn), ⟨[(.const (.int .i64 2))]⟩, ⟨[t_int]⟩⟩, some (some 64, true), false⟩,
   ⟨some 66, .binOp .eql t_int (.tmp 65) (.const (.int .i64 5)) t_int, some (some 64, true), false⟩,
   ⟨some 67, .pick (.tmp 64) (.tmp 66) (.const (.bool false)), none, false⟩,
   ⟨some 68, .move (.tmp 67), none, false⟩,
   ⟨some 69, .load t_api_Node (.tmp 1), some (some 68, true), false⟩,
   ⟨some 70, .build t_api_Atom ⟨[(1, (.tmp 69))]⟩, some (some 68, true), false⟩,
   ⟨some 71, .call ⟨.value (.func f_atom_Right), ⟨[(.tmp 70)]⟩, ⟨[t_api_Atom]⟩⟩, some (some 68, true), false⟩,
   ⟨some 72, .pick (.tmp 68) (.tmp 71) (.const (.bool false)), none, false⟩,
   ⟨some 0, .assign (.tmp 72), none, false⟩])
  .ret))))))
theorem k_loupelaw11_alive : FnOk Tryz.prog f_loupelaw11_alive 73 [.tmp 0] q42 := ⟨_, _, Tryz.func22, by kernel_rfl, rfl, Tryz.ntmps22, rfl, by kernel_rfl⟩
def q2i : LC :=
  (.seq (.reg [⟨some 3, .box t__2_int (.tmp 0), none, false⟩,
   ⟨some 5, .box t_api_Node (.tmp 2), none, false⟩,
   ⟨some 6, .assign (.const (.bool false)), none, false⟩])
  (.seq (.seq (.weak (.reg [⟨some 11, .move (.tmp 1), none, false⟩,
   ⟨some 12, .call ⟨.value (.func f_louperef11_All), ⟨[(.tmp 11), (.const (.int .i64 8))]⟩, ⟨[t_L_api_Atom, t_int]⟩⟩, none, false⟩,
   ⟨some 13, .unOp .not t_bool (.tmp 12), none, false⟩,
   ⟨some 14, .move (.tmp 13), none, false⟩,
   ⟨some 15, .indexAddr t__2_int (.tmp 3) (.const (.int .i64 0)), some (some 14, false), false⟩,
   ⟨some 16, .load t_int (.tmp 15), some (some 14, false), false⟩,
   ⟨some 17, .binOp .lss t_int (.tmp 16) (.const (.int .i64 0)) t_int, some (some 14, false), false⟩,
   ⟨some 18, .pick (.tmp 14) (.const (.bool true)) (.tmp 17), none, false⟩,
   ⟨some 19, .move (.tmp 18), none, false⟩,
   ⟨some 20, .indexAddr t__2_int (.tmp 3) (.const (.int .i64 0)), some (some 19, false), false⟩,
   ⟨some 21, .load t_int (.tmp 20), some (some 19, false), false⟩,
   ⟨some 22, .binOp .gtr t_int (.tmp 21) (.const (.int .i64 31)) t_int, some (some 19, false), false⟩,
   ⟨some 23, .pick (.tmp 19) (.const (.bool true)) (.tmp 22), none, false⟩,
   ⟨some 24, .move (.tmp 23), none, false⟩,
   ⟨some 25, .indexAddr t__2_int (.tmp 3) (.const (.int .i64 1)), some (some 24, false), false⟩,
   ⟨some 26, .load t_int (.tmp 25), some (some 24, false), false⟩,
   ⟨some 27, .binOp .lss t_int (.tmp 26) (.const (.int .i64 0)) t_int, some (some 24, false), false⟩,
   ⟨some 28, .pick (.tmp 24) (.const (.bool true)) (.tmp 27), none, false⟩,
   ⟨some 29, .move (.tmp 28), none, false⟩,
   ⟨some 30, .indexAddr t__2_int (.tmp 3) (.const (.int .i64 1)), some (some 29, false), false⟩,
   ⟨some 31, .load t_int (.tmp 30), some (some 29, false), false⟩,
   ⟨some 32, .binOp .gtr t_int (.tmp 31) (.const (.int .i64 31)) t_int, some (some 29, false), false⟩,
   ⟨some 33, .pick (.tmp 29) (.const (.bool true)) (.tmp 32), none, false⟩,
   ⟨some 34, .move (.tmp 33), none, false⟩,
   ⟨some 35, .fieldAddr t_api_Node (.tmp 5) 3, some (some 34, false), false⟩,
   ⟨some 36, .load t_string (.tmp 35), some (some 34, false), false⟩,
   ⟨some 37, .call ⟨.builtin .len, ⟨[(.tmp 36)]⟩, ⟨[t_string]⟩⟩, some (some 34, false), false⟩,
   ⟨some 38, .binOp .gtr t_int (.tmp 37) (.const (.int .i64 200)) t_int, some (some 34, false), false⟩,
   ⟨some 39, .pick (.tmp 34) (.const (.bool true)) (.tmp 38), none, false⟩]))
  (.cond (.tmp 39)
   (.seq (.reg [⟨some 40, .call ⟨.value (.func f_loupelaw11_alive), ⟨[]⟩, ⟨[]⟩⟩, none, false⟩,
    ⟨some 6, .assign (.tmp 40), none, false⟩])
   .ret)
   .skip))
  (.seq (.reg [⟨some 41, .load t_api_Node (.tmp 5), none, false⟩,
   ⟨some 42, .call ⟨.value (.func f_louperef11_Member), ⟨[(.const (.int .i64 31)), (.const (.slice none 0 0)), (.tmp 41)]⟩, ⟨[t_int, t_L_api_Atom, t_api_Node]⟩⟩, none, false⟩,
   ⟨some 7, .assign (.tmp 42), none, false⟩])
  (.seq (.seq (.reg [⟨some 8, .assign (.const (.int .i64 0)), none, false⟩])
  (.block 0 (.loop [false, true, false, true, false, true, false, true, true, false, false, false, false, false, false, false, false, false, false, false, false, false, false, false, false, false, false, false, false, false, false, false, false, false, false, false, false, false, false, false, false, false, false, false, false, false, false, false, false, false, false, false, false, false, false, false, false, false, false, false, false, false, false, false, false, false, false, false, false, false, false, false, false, false, false, false, false, false, false, false, false, false, false, false, false, false, false, false, false, false, false, false, false, false, false, false, false, false, false, false, false, false, false, false, false, false, false, false, false, false, false, false, false, false, false, false, false, false, false, false, false, false, false, false, false] (some (1, 0))
   (.seq (.seq (.reg [⟨some 43, .move (.tmp 8), none, false⟩,
     ⟨some 44, .move (.tmp 1), none, false⟩,
     ⟨some 45, .call ⟨.builtin .len, ⟨[(.tmp 44)]⟩, ⟨[t_L_api_Atom]⟩⟩, none, false⟩,
     ⟨some 46, .binOp .lss t_int (.tmp 43) (.tmp 45) t_int, none, false⟩])
    (.cond (.tmp 46)
     .skip
     (.exit 0)))
    (.seq (.block 1 (.seq (.draw [⟨some 49, .move (.tmp 1), none, false⟩,
      ⟨some 50, .move (.tmp 8), none, false⟩,
      ⟨some 51, .indexAddr t_L_api_Atom (.tmp 49) (.tmp 50), none, false⟩,
      ⟨some 52, .fieldAddr t_api_Atom (.tmp 51) 0, none, false⟩,
      ⟨some 53, .load t_int (.tmp 52), none, false⟩,
      ⟨some 54, .call ⟨.value (.func f_atom_Turn), ⟨[(.tmp 53)]⟩, ⟨[t_int]⟩⟩, none, false⟩,
      ⟨some 55, .move (.tmp 1), none, false⟩,
      ⟨some 56, .move (.tmp 8), none, false⟩,
      ⟨some 57, .indexAddr t_L_api_Atom (.tmp 55) (.tmp 56), none, false⟩,
      ⟨some 58, .fieldAddr t_api_Atom (.tmp 57) 1, none, false⟩,
      ⟨some 59, .load t_api_Node (.tmp 58), none, false⟩,
      ⟨some 60, .build t_api_Atom ⟨[(0, (.tmp 54)), (1, (.tmp 59))]⟩, none, false⟩,
      ⟨some 9, .alloc t_api_Atom, none, false⟩,
      ⟨none, .store t_api_Atom (.tmp 9) (.tmp 60), none, false⟩]
     [0, 1, 0, 0, 0, 0, 63, 127, 63, 63, 63, 0, 4095, 0])
     (.seq (.seq (.draw [⟨some 61, .fieldAddr t_api_Atom (.tmp 9) 0, none, false⟩,
      ⟨some 62, .load t_int (.tmp 61), none, false⟩,
      ⟨some 63, .call ⟨.value (.func f_atom_Turn), ⟨[(.tmp 62)]⟩, ⟨[t_int]⟩⟩, none, false⟩,
      ⟨some 64, .move (.tmp 1), none, false⟩,
      ⟨some 65, .move (.tmp 8), none, false⟩,
      ⟨some 66, .indexAddr t_L_api_Atom (.tmp 64) (.tmp 65), none, false⟩,
      ⟨some 67, .fieldAddr t_api_Atom (.tmp 66) 0, none, false⟩,
      ⟨some 68, .load t_int (.tmp 67), none, false⟩,
      ⟨some 69, .binOp .neq t_int (.tmp 63) (.tmp 68) t_int, none, false⟩,
      ⟨some 70, .move (.tmp 69), none, false⟩,
      ⟨some 71, .move (.tmp 7), some (some 70, false), false⟩,
      ⟨some 72, .move (.tmp 71), some (some 70, false), false⟩,
      ⟨some 73, .load t_api_Atom (.tmp 9), some (some 72, true), false⟩,
      ⟨some 74, .load t_api_Node (.tmp 5), some (some 72, true), false⟩,
      ⟨some 75, .call ⟨.value (.func f_atom_Holds), ⟨[(.tmp 73), (.tmp 74)]⟩, ⟨[t_api_Atom, t_api_Node]⟩⟩, some (some 72, true), false⟩,
      ⟨some 76, .move (.tmp 1), some (some 72, true), false⟩,
      ⟨some 77, .move (.tmp 8), some (some 72, true), false⟩,
      ⟨some 78, .indexAddr t_L_api_Atom (.tmp 76) (.tmp 77), some (some 72, true), false⟩,
      ⟨some 79, .load t_api_Atom (.tmp 78), some (some 72, true), false⟩,
      ⟨some 80, .load t_api_Node (.tmp 5), some (some 72, true), false⟩,
      ⟨some 81, .call ⟨.value (.func f_atom_Holds), ⟨[(.tmp 79), (.tmp 80)]⟩, ⟨[t_api_Atom, t_api_Node]⟩⟩, some (some 72, true), false⟩,
      ⟨some 82, .binOp .eql t_bool (.tmp 75) (.tmp 81) t_bool, some (some 72, true), false⟩,
      ⟨some 83, .pick (.tmp 72) (.tmp 82) (.const (.bool false)), some (some 70, false), false⟩,
      ⟨some 84, .pick (.tmp 70) (.const (.bool true)) (.tmp 83), none, false⟩]
     [0, 0, 0, 7, 15, 7, 7, 7, 0, 0, 0, 0, 0, 4096, 0, 28672, 61440, 28672, 28672, 520192, 0, 0, 0, 0])
     (.cond (.tmp 84)
      (.seq (.reg [⟨some 6, .assign (.const (.bool false)), none, false⟩])
      .ret)
      .skip))
     (.seq (.draw [⟨some 85, .indexAddr t__2_int (.tmp 3) (.const (.int .i64 0)), none, false⟩,
      ⟨some 86, .load t_int (.tmp 85), none, false⟩,
      ⟨some 87, .move (.tmp 1), none, false⟩,
      ⟨some 88, .load t_api_Node (.tmp 5), none, false⟩,
      ⟨some 89, .call ⟨.value (.func f_atom_Member), ⟨[(.tmp 86), (.tmp 87), (.tmp 88)]⟩, ⟨[t_int, t_L_api_Atom, t_api_Node]⟩⟩, none, false⟩,
      ⟨some 90, .move (.tmp 89), none, false⟩,
      ⟨some 91, .indexAddr t__2_int (.tmp 3) (.const (.int .i64 0)), some (some 90, true), false⟩,
      ⟨some 92, .load t_int (.tmp 91), some (some 90, true), false⟩,
      ⟨some 93, .move (.tmp 1), some (some 90, true), false⟩,
      ⟨some 94, .move (.tmp 8), some (some 90, true), false⟩,
      ⟨some 95, .slice t_L_api_Atom (.tmp 93) none (some (.tmp 94)) none, some (some 90, true), false⟩,
      ⟨some 96, .load t_api_Node (.tmp 5), some (some 90, true), false⟩,
      ⟨some 97, .call ⟨.value (.func f_atom_Member), ⟨[(.tmp 92), (.tmp 95), (.tmp 96)]⟩, ⟨[t_int, t_L_api_Atom, t_api_Node]⟩⟩, some (some 90, true), false⟩,
      ⟨some 98, .unOp .not t_bool (.tmp 97), some (some 90, true), false⟩,
      ⟨some 99, .pick (.tmp 90) (.tmp 98) (.const (.bool false)), none, false⟩]
     [0, 0, 3, 7, 0, 0, 0, 0, 192, 448, 192, 1984, 0, 0, 0])
     (.cond (.tmp 99)
      (.seq (.reg [⟨some 6, .assign (.const (.bool false)), none, false⟩])
      .ret)
      .skip)))))
    (.reg [⟨some 47, .move (.tmp 8), none, false⟩,
     ⟨some 48, .binOp .add t_int (.tmp 47) (.const (.int .i64 1)) t_int, none, false⟩,
     ⟨some 8, .assign (.tmp 48), none, false⟩]))))))
  (.seq (.reg [⟨some 100, .indexAddr t__2_int (.tmp 3) (.const (.int .i64 0)), none, false⟩,
   ⟨some 101, .load t_int (.tmp 100), none, false⟩,
   ⟨some 102, .move (.tmp 1), none, false⟩,
   ⟨some 103, .load t_api_Node (.tmp 5), none, false⟩,
   ⟨some 104, .call ⟨.value (.func f_atom_Member), ⟨[(.tmp 101), (.tmp 102), (.tmp 103)]⟩, ⟨[t_int, t_L_api_Atom, t_api_Node]⟩⟩, none, false⟩,
   ⟨some 105, .move (.tmp 104), none, false⟩,
   ⟨some 106, .indexAddr t__2_int (.tmp 3) (.const (.int .i64 1)), some (some 105, false), false⟩,
   ⟨some 107, .load t_int (.tmp 106), some (some 105, false), false⟩,
   ⟨some 108, .move (.tmp 1), some (some 105, false), false⟩,
   ⟨some 109, .load t_api_Node (.tmp 5), some (some 105, false), false⟩,
   ⟨some 110, .call ⟨.value (.func f_atom_Member), ⟨[(.tmp 107), (.tmp 108), (.tmp 109)]⟩, ⟨[t_int, t_L_api_Atom, t_api_Node]⟩⟩, some (some 105, false), false⟩,
   ⟨some 111, .pick (.tmp 105) (.const (.bool true)) (.tmp 110), none, false⟩,
   ⟨some 10, .assign (.tmp 111), none, false⟩])
  (.seq (.reg [⟨some 112, .call ⟨.value (.func f_loupelaw11_alive), ⟨[]⟩, ⟨[]⟩⟩, none, false⟩,
   ⟨some 113, .move (.tmp 112), none, false⟩,
   ⟨some 114, .indexAddr t__2_int (.tmp 3) (.const (.int .i64 0)), some (some 113, true), false⟩,
   ⟨some 115, .load t_int (.tmp 114), some (some 113, true), false⟩,
   ⟨some 116, .indexAddr t__2_int (.tmp 3) (.const (.int .i64 1)), some (some 113, true), false⟩,
   ⟨some 117, .load t_int (.tmp 116), some (some 113, true), false⟩,
   ⟨some 118, .binOp .or t_int (.tmp 115) (.tmp 117) t_int, some (some 113, true), false⟩,
   ⟨some 119, .move (.tmp 1), some (some 113, true), false⟩,
   ⟨some 120, .load t_api_Node (.tmp 5), some (some 113, true), false⟩,
   ⟨some 121, .call ⟨.value (.func f_atom_Member), ⟨[(.tmp 118), (.tmp 119), (.tmp 120)]⟩, ⟨[t_int, t_L_api_Atom, t_api_Node]⟩⟩, some (some 113, true), false⟩,
   ⟨some 122, .move (.tmp 10), some (some 113, true), false⟩,
   ⟨some 123, .binOp .eql t_bool (.tmp 121) (.tmp 122) t_bool, some (some 113, true), false⟩,
   ⟨some 124, .pick (.tmp 113) (.tmp 123) (.const (.bool false)), none, false⟩,
   ⟨some 6, .assign (.tmp 124), none, false⟩])
  .ret))))))
theorem k_loupelaw11_AtomTurns : FnOk Tryz.prog f_loupelaw11_AtomTurns 125 [.tmp 6] q2i := ⟨_, _, Tryz.func4, by kernel_rfl, rfl, Tryz.ntmps4, rfl, by kernel_rfl⟩
end Lp
