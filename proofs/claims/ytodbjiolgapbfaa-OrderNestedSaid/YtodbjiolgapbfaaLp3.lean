/-
  Part 3 of what the statement rests on: LpI1, LpC1, LpZ, LpEq, LpU2, LpW1, LpW2, LpW3, LpW4, LpW5, LpW6, LpW7, LpW8, LpW9, LpW10. No condition.
-/
import Derived.Test.YtodbjiolgapbfaaLp2
import Derived.Test.YtodbjiolgapbfaaRows
import Derived.Laws.StructEq

set_option linter.all false

/-! LpI1 -/

namespace Lp
open Go Go.Proofs
def t___ : TypeId := 0
def t_func__ : TypeId := 1
def t_int64 : TypeId := 2
def t_int : TypeId := 3
def t_bool : TypeId := 4
def t_uint8 : TypeId := 5
def t_abi_BoundsErrorCode : TypeId := 6
def t_struct___x_int64__y_int__signed_bool__code_abi_BoundsErrorCode__ : TypeId := 7
def t_runtime_boundsError : TypeId := 8
def t_string : TypeId := 9
def t_runtime_errorString : TypeId := 10
def t_runtime_plainError : TypeId := 11
def t_uintptr : TypeId := 12
def t_struct___msg_string__addr_uintptr__ : TypeId := 13
def t_runtime_errorAddressString : TypeId := 14
def t_P_runtime_TypeAssertionError : TypeId := 15
def t_P_runtime_PanicNilError : TypeId := 16
def t_P_abi_Type : TypeId := 17
def t_struct___typ_P_abi_Type__ : TypeId := 18
def t_maps_unhashableTypeError : TypeId := 19
def t_interface___ : TypeId := 20
def t_int32 : TypeId := 21
def t_L_api_Node : TypeId := 22
def t_api_Val : TypeId := 23
def t_L_api_Val : TypeId := 24
def t_func_api_Val__int__bool : TypeId := 25
def t_func_L_api_Val__int__bool : TypeId := 26
def t_func___bool : TypeId := 27
def t_func_api_Val__api_Val__int : TypeId := 28
def t_func_L_api_Val__bool : TypeId := 29
def t_func_L_int__L_int__bool : TypeId := 30
def t_L_int : TypeId := 31
def t_func_L_api_Val__L_int : TypeId := 32
def t_func_api_Val__api_Val__L_api_Val__bool : TypeId := 33
def t_L_L_int : TypeId := 34
def t_func_L_api_Val__L_L_int : TypeId := 35
def t_func_api_Val__api_Val__bool : TypeId := 36
def t_struct___Kind_int__Many_int__Name_string__S_string__Neg_bool__E_int__ : TypeId := 37
def t_api_Node : TypeId := 38
def t_func_api_Val__api_Val__api_Val__bool : TypeId := 39
def t_L_bool : TypeId := 40
def t_func_L_api_Val__L_int__L_api_Val : TypeId := 41
def t__2_string : TypeId := 42
def t_func_string__bool : TypeId := 43
def t_api_Errno : TypeId := 44
def t__api_Val__api_Errno_ : TypeId := 45
def t_func_L_string__L_api_Val___api_Val__api_Errno_ : TypeId := 46
def t_L_string : TypeId := 47
def t_func_L_api_Val__api_Val : TypeId := 48
def t_func_api_Val__api_Val___2_string__bool : TypeId := 49
def t_L_api_File : TypeId := 50
def t_L_api_Deed : TypeId := 51
def t_struct___L_L_api_File__D_L_api_Deed__ : TypeId := 52
def t_api_Disk : TypeId := 53
def t_func_api_Disk__bool : TypeId := 54
def t_func_api_Disk__api_Disk__bool : TypeId := 55
def t__string__bool_ : TypeId := 56
def t_func_api_Disk__string___string__bool_ : TypeId := 57
def t_func_api_Disk__api_Disk__string__bool : TypeId := 58
def t_struct___Kind_int__Name_string__S_string__ : TypeId := 59
def t_api_Deed : TypeId := 60
def t__api_Disk__api_Errno_ : TypeId := 61
def t_func_api_Disk__api_Deed___api_Disk__api_Errno_ : TypeId := 62
def t_func_api_Disk__int__api_Disk : TypeId := 63
def t_func_api_Disk__api_Deed__int__bool : TypeId := 64
def t_struct___D_api_Disk__Name_string__S_string__Stop_int__N_int__Other_string__ : TypeId := 65
def t_loupelaw23_SaveIn : TypeId := 66
def t__api_Disk__int__api_Errno_ : TypeId := 67
def t_func_api_Disk__string__string__int___api_Disk__int__api_Errno_ : TypeId := 68
def t_func_string__string__L_api_Deed : TypeId := 69
def t_func_loupelaw23_SaveIn__bool : TypeId := 70
def t__2_int : TypeId := 71
def t_func_api_Disk___2_int__string__bool : TypeId := 72
def t_func_api_Disk__api_Deed__bool : TypeId := 73
def t_func_loupelaw23_SaveIn__string__bool : TypeId := 74
def t_func_api_Val__bool : TypeId := 75
def t_func_int__int__int : TypeId := 76
def t_func_api_Node__api_Node__int : TypeId := 77
def t_func_string__string__int : TypeId := 78
def t_func_L_string__L_string__int : TypeId := 79
def t_func_api_Val__L_string : TypeId := 80
def t_func_L_api_Val__L_api_Val__func_api_Val__api_Val__int__int : TypeId := 81
def t_func_api_Val__L_api_Val : TypeId := 82
def t_func_bool__bool__int : TypeId := 83
def t_func_L_api_Val__L_api_Val__int : TypeId := 84
def t_func_L_api_Val__func_api_Val__api_Val__int__bool : TypeId := 85
def t_func_L_int__func_int__int__bool__L_int : TypeId := 86
def t_func_int__int__bool : TypeId := 87
def t_func_string__int__int : TypeId := 88
def t_func_L_string__L_api_Val__api_Val : TypeId := 89
def t_struct___Name_string__S_string__ : TypeId := 90
def t_api_File : TypeId := 91
def t_L_uint8 : TypeId := 92
def t_func_api_Deed__bool : TypeId := 93
def t__L_api_File__bool_ : TypeId := 94
def t_func_L_api_File__api_Deed___L_api_File__bool_ : TypeId := 95
def t_func_L_api_File__L_api_File__bool : TypeId := 96
def t_func_L_api_Deed__L_api_Deed__bool : TypeId := 97
def t__int__bool_ : TypeId := 98
def t_func_L_api_File__string___int__bool_ : TypeId := 99
def t_func_api_Disk__L_api_File : TypeId := 100
def t_func_L_api_File__string__int : TypeId := 101
def t_func_L_api_Deed__L_api_Deed__1 : TypeId := 102
def t_func_L_api_File__api_Deed__L_api_File : TypeId := 103
def t_P_file_saver : TypeId := 104
def t_struct___ : TypeId := 105
def t_atomic_noCopy : TypeId := 106
def t_atomic_align64 : TypeId := 107
def t_struct_____atomic_noCopy____atomic_align64__v_int64__ : TypeId := 108
def t_atomic_Int64 : TypeId := 109
def t_struct___n_atomic_Int64__stop_int__ : TypeId := 110
def t_file_saver : TypeId := 111
def t_func___int64 : TypeId := 112
def t_func_string__string__string : TypeId := 113
def t_func_api_Val__int__int : TypeId := 114
def t_func_api_Node__bool : TypeId := 115
def t_func_int__bool : TypeId := 116
def t_func_func_string__api_Val__bool_ : TypeId := 117
def t_iter_Seq2_string_api_Val_ : TypeId := 118
def t_func_api_Val__iter_Seq2_string_api_Val_ : TypeId := 119
def t_func_api_Node__int__int : TypeId := 120
def t_func_api_Val__int__int__api_Val : TypeId := 121
def t_func_L_int__L_int__func_int__int__bool__L_int : TypeId := 122
def t_func_string__int__bool : TypeId := 123
def t_func_L_api_File__api_File__L_api_File : TypeId := 124
def t_func_L_api_File__int__int__L_api_File : TypeId := 125
def t_func_L_api_File__L_api_File__1 : TypeId := 126
def t_func_L_api_File__string__func_api_File__string__int___int__bool_ : TypeId := 127
def t_func_api_File__string__int : TypeId := 128
def t_func_L_api_File__string__L_api_File : TypeId := 129
def t_func_int64__int64 : TypeId := 130
def t_P_atomic_Int64 : TypeId := 131
def t_func_P_int64__int64 : TypeId := 132
def t_P_int64 : TypeId := 133
def t_func_string__api_Val__bool : TypeId := 134
def t_func_api_Val__api_Val__5 : TypeId := 135
def t_func_L_api_File__int_____api_File__L_api_File : TypeId := 136
def t_uint : TypeId := 137
def t_func_P_int64__int64__int64 : TypeId := 138
def t_func_string__string__bool : TypeId := 139
def t_func_L_api_File__int___1 : TypeId := 140
def t_func_L_api_File_ : TypeId := 141
def t_func___string : TypeId := 142
def t_struct____interface_P_abi_Type__concrete_P_abi_Type__asserted_P_abi_Type__missingMethod_string__ : TypeId := 143
def t_runtime_TypeAssertionError : TypeId := 144
def t__0_P_runtime_PanicNilError : TypeId := 145
def t_struct______0_P_runtime_PanicNilError__ : TypeId := 146
def t_runtime_PanicNilError : TypeId := 147
def t_func___int : TypeId := 148
def t_uint32 : TypeId := 149
def t_abi_TFlag : TypeId := 150
def t_abi_Kind : TypeId := 151
def t_func_unsafe_Pointer__unsafe_Pointer__bool : TypeId := 152
def t_P_uint8 : TypeId := 153
def t_abi_NameOff : TypeId := 154
def t_abi_TypeOff : TypeId := 155
def t_struct___Size__uintptr__PtrBytes_uintptr__Hash_uint32__TFlag_abi_TFlag__Align__uint8__FieldAlign__uint8__Kind__abi_Kind__Equal_func_unsafe_Pointer__unsafe_Pointer__bool__GCData_P_uint8__Str_abi_NameOff__PtrToThis_abi_TypeOff__ : TypeId := 156
def t_abi_Type : TypeId := 157
def t_unsafe_Pointer : TypeId := 158
def f_main_main : FuncId := 0
def f_gosem_cut : FuncId := 1
def f_gosem_cut_init : FuncId := 2
def f_loupelaw05_OrderTells : FuncId := 3
def f_loupelaw05_OrderGroups : FuncId := 4
def f_loupelaw05_OrderTotal : FuncId := 5
def f_loupelaw05_OrderSorted : FuncId := 6
def f_loupelaw05_OrderJoined : FuncId := 7
def f_loupelaw05_OrderNested : FuncId := 8
def f_loupelaw23_FileTells : FuncId := 9
def f_loupelaw23_FileDoes : FuncId := 10
def f_loupelaw23_FileSaves : FuncId := 11
def f_loupelaw23_FileOneOr : FuncId := 12
def f_loupelaw23_FileFlush : FuncId := 13
def f_loupelaw23_FileDeeds : FuncId := 14
def f_loupelaw23_FileTwice : FuncId := 15
def f_louperef02_Few : FuncId := 16
def f_louperef02_All : FuncId := 17
def f_loupelaw05_alive : FuncId := 18
def f_order_Cmp : FuncId := 19
def f_louperef05_Cmp : FuncId := 20
def f_order_Rises : FuncId := 21
def f_louperef05_Rises : FuncId := 22
def f_louperef05_Ints : FuncId := 23
def f_order_Sort : FuncId := 24
def f_louperef05_Sort : FuncId := 25
def f_order_Groups : FuncId := 26
def f_louperef05_Groups : FuncId := 27
def f_louperef02_Same : FuncId := 28
def f_louperef05_Pick : FuncId := 29
def f_louperef02_Utf : FuncId := 30
def f_louperef02_Object : FuncId := 31
def f_louperef02_List : FuncId := 32
def f_louperef23_Small : FuncId := 33
def f_loupelaw23_alive : FuncId := 34
def f_louperef23_Right : FuncId := 35
def f_file_Right : FuncId := 36
def f_file_Same : FuncId := 37
def f_louperef23_Same : FuncId := 38
def f_file_See : FuncId := 39
def f_louperef23_See : FuncId := 40
def f_louperef23_Few : FuncId := 41
def f_file_Do : FuncId := 42
def f_louperef23_Do : FuncId := 43
def f_file_Crash : FuncId := 44
def f_louperef23_Crash : FuncId := 45
def f__loupelaw23_SaveIn__given : FuncId := 46
def f_file_Save : FuncId := 47
def f_louperef23_Save : FuncId := 48
def f_file_Plan : FuncId := 49
def f_louperef23_Plan : FuncId := 50
def f_louperef02_Right : FuncId := 51
def f_cmp_Compare_int_ : FuncId := 52
def f_num_Cmp : FuncId := 53
def f_cmp_Compare_string_ : FuncId := 54
def f_slices_Compare_L_string_string_ : FuncId := 55
def f_val_Names : FuncId := 56
def f_slices_CompareFunc_L_api_Val_L_api_Val_api_Val_api_Val_ : FuncId := 57
def f_val_Parts : FuncId := 58
def f_louperef05_sign : FuncId := 59
def f_louperef01_Cmp : FuncId := 60
def f_louperef05_rows : FuncId := 61
def f_louperef02_Parts : FuncId := 62
def f_louperef05_names : FuncId := 63
def f_louperef02_Names : FuncId := 64
def f_slices_IsSortedFunc_L_api_Val_api_Val_ : FuncId := 65
def f_order_sorted_int_ : FuncId := 66
def f_order_Sort_1 : FuncId := 67
def f_louperef02_Rune : FuncId := 68
def f_louperef02_named : FuncId := 69
def f_louperef23_name : FuncId := 70
def f_louperef23_may : FuncId := 71
def f_louperef23_needs : FuncId := 72
def f_file_isName : FuncId := 73
def f_file_done : FuncId := 74
def f_slices_Equal_L_api_File_api_File_ : FuncId := 75
def f_slices_Equal_L_api_Deed_api_Deed_ : FuncId := 76
def f_file_find : FuncId := 77
def f_louperef23_Seen : FuncId := 78
def f_louperef23_Find : FuncId := 79
def f_file_may : FuncId := 80
def f_slices_Clip_L_api_Deed_api_Deed_ : FuncId := 81
def f_louperef23_done : FuncId := 82
def f__P_file_saver__next : FuncId := 83
def f__P_sync_atomic_Int64__Load : FuncId := 84
def f_strings_TrimPrefix : FuncId := 85
def f_louperef02_Next : FuncId := 86
def f_louperef02_plain : FuncId := 87
def f_louperef02_rising : FuncId := 88
def f_cmp_isNaN_int_ : FuncId := 89
def f_num_size : FuncId := 90
def f_cmp_isNaN_string_ : FuncId := 91
def f_val_each : FuncId := 92
def f_louperef01_at : FuncId := 93
def f_louperef02_own : FuncId := 94
def f_order_merged_int_ : FuncId := 95
def f_louperef02_cont : FuncId := 96
def f_file_laid : FuncId := 97
def f_slices_Delete_L_api_File_api_File_ : FuncId := 98
def f_slices_Clone_L_api_File_api_File_ : FuncId := 99
def f_slices_BinarySearchFunc_L_api_File_api_File_string_ : FuncId := 100
def f_file_byName : FuncId := 101
def f_louperef23_with : FuncId := 102
def f_louperef23_without : FuncId := 103
def f__P_sync_atomic_Int64__Add : FuncId := 104
def f_sync_atomic_LoadInt64 : FuncId := 105
def f_stringslite_TrimPrefix : FuncId := 106
def f_louperef01_Right : FuncId := 107
def f_val_each_1 : FuncId := 108
def f_val_behind : FuncId := 109
def f_slices_Clone_api_Val_api_Node_ : FuncId := 110
def f_slices_Insert_L_api_File_api_File_ : FuncId := 111
def f_sync_atomic_AddInt64 : FuncId := 112
def f_stringslite_HasPrefix : FuncId := 113
def f_louperef01_figures : FuncId := 114
def f_slices_overlaps_api_File_ : FuncId := 115
def f_slices_rotateRight_api_File_ : FuncId := 116
def f_slices_rotateLeft_api_File_ : FuncId := 117
def f_slices_Reverse_L_api_File_api_File_ : FuncId := 118
def f__runtime_boundsError__Error : FuncId := 119
def f__runtime_boundsError__RuntimeError : FuncId := 120
def f__runtime_errorString__Error : FuncId := 121
def f__runtime_errorString__RuntimeError : FuncId := 122
def f__runtime_plainError__Error : FuncId := 123
def f__runtime_plainError__RuntimeError : FuncId := 124
def f__runtime_errorAddressString__Error : FuncId := 125
def f__runtime_errorAddressString__RuntimeError : FuncId := 126
def f__P_runtime_TypeAssertionError__Error : FuncId := 127
def f__P_runtime_TypeAssertionError__RuntimeError : FuncId := 128
def f__P_runtime_PanicNilError__Error : FuncId := 129
def f__P_runtime_PanicNilError__RuntimeError : FuncId := 130
def f__P_abi_Type__Align : FuncId := 131
def f__runtime_maps_unhashableTypeError__Error : FuncId := 132
def f__runtime_maps_unhashableTypeError__RuntimeError : FuncId := 133
def f__abi_Kind__String : FuncId := 134
def tabD : List TInfo := [
  ⟨.other, 1, 0, .tuple ⟨[]⟩⟩,
  ⟨.other, 1, 8, .nilFunc⟩,
  ⟨(.int .i64), 1, 8, .int .i64 0⟩,
  ⟨(.int .i64), 1, 8, .int .i64 0⟩,
  ⟨.bool, 1, 1, .bool false⟩,
  ⟨(.int .u8), 1, 1, .int .u8 0⟩,
  ⟨(.int .u8), 1, 1, .int .u8 0⟩,
  ⟨(.struct [(0, t_int64), (1, t_int), (2, t_bool), (3, t_abi_BoundsErrorCode)]), 4, 24, .agg ⟨[.int .i64 0, .int .i64 0, .bool false, .int .u8 0]⟩⟩,
  ⟨(.struct [(0, t_int64), (1, t_int), (2, t_bool), (3, t_abi_BoundsErrorCode)]), 4, 24, .agg ⟨[.int .i64 0, .int .i64 0, .bool false, .int .u8 0]⟩⟩,
  ⟨.str, 1, 16, .string ⟨⟨[]⟩⟩⟩,
  ⟨.str, 1, 16, .string ⟨⟨[]⟩⟩⟩,
  ⟨.str, 1, 16, .string ⟨⟨[]⟩⟩⟩,
  ⟨(.int .u64), 1, 8, .int .u64 0⟩,
  ⟨(.struct [(0, t_string), (1, t_uintptr)]), 2, 24, .agg ⟨[.string ⟨⟨[]⟩⟩, .int .u64 0]⟩⟩,
  ⟨(.struct [(0, t_string), (1, t_uintptr)]), 2, 24, .agg ⟨[.string ⟨⟨[]⟩⟩, .int .u64 0]⟩⟩,
  ⟨.other, 1, 8, .pointer none⟩,
  ⟨.other, 1, 8, .pointer none⟩,
  ⟨.other, 1, 8, .pointer none⟩,
  ⟨(.struct [(0, t_P_abi_Type)]), 1, 8, .agg ⟨[.pointer none]⟩⟩,
  ⟨(.struct [(0, t_P_abi_Type)]), 1, 8, .agg ⟨[.pointer none]⟩⟩,
  ⟨.other, 1, 16, .nilIface⟩,
  ⟨(.int .i32), 1, 4, .int .i32 0⟩,
  ⟨(.slice t_api_Node), 1, 24, .slice none 0 0⟩,
  ⟨(.slice t_api_Node), 1, 24, .slice none 0 0⟩,
  ⟨(.slice t_api_Val), 1, 24, .slice none 0 0⟩,
  ⟨.other, 1, 8, .nilFunc⟩,
  ⟨.other, 1, 8, .nilFunc⟩,
  ⟨.other, 1, 8, .nilFunc⟩,
  ⟨.other, 1, 8, .nilFunc⟩,
  ⟨.other, 1, 8, .nilFunc⟩,
  ⟨.other, 1, 8, .nilFunc⟩,
  ⟨(.slice t_int), 1, 24, .slice none 0 0⟩,
  ⟨.other, 1, 8, .nilFunc⟩,
  ⟨.other, 1, 8, .nilFunc⟩,
  ⟨(.slice t_L_int), 1, 24, .slice none 0 0⟩,
  ⟨.other, 1, 8, .nilFunc⟩,
  ⟨.other, 1, 8, .nilFunc⟩,
  ⟨(.struct [(0, t_int), (1, t_int), (2, t_string), (3, t_string), (4, t_bool), (5, t_int)]), 6, 64, .agg ⟨[.int .i64 0, .int .i64 0, .string ⟨⟨[]⟩⟩, .string ⟨⟨[]⟩⟩, .bool false, .int .i64 0]⟩⟩,
  ⟨(.struct [(0, t_int), (1, t_int), (2, t_string), (3, t_string), (4, t_bool), (5, t_int)]), 6, 64, .agg ⟨[.int .i64 0, .int .i64 0, .string ⟨⟨[]⟩⟩, .string ⟨⟨[]⟩⟩, .bool false, .int .i64 0]⟩⟩,
  ⟨.other, 1, 8, .nilFunc⟩,
  ⟨(.slice t_bool), 1, 24, .slice none 0 0⟩,
  ⟨.other, 1, 8, .nilFunc⟩,
  ⟨(.array 2 t_string), 2, 32, .agg ⟨[.string ⟨⟨[]⟩⟩, .string ⟨⟨[]⟩⟩]⟩⟩,
  ⟨.other, 1, 8, .nilFunc⟩,
  ⟨(.int .i64), 1, 8, .int .i64 0⟩,
  ⟨.other, 1, 0, .tuple ⟨[.slice none 0 0, .int .i64 0]⟩⟩,
  ⟨.other, 1, 8, .nilFunc⟩,
  ⟨(.slice t_string), 1, 24, .slice none 0 0⟩,
  ⟨.other, 1, 8, .nilFunc⟩,
  ⟨.other, 1, 8, .nilFunc⟩,
  ⟨(.slice t_api_File), 1, 24, .slice none 0 0⟩,
  ⟨(.slice t_api_Deed), 1, 24, .slice none 0 0⟩,
  ⟨(.struct [(0, t_L_api_File), (1, t_L_api_Deed)]), 2, 48, .agg ⟨[.slice none 0 0, .slice none 0 0]⟩⟩,
  ⟨(.struct [(0, t_L_api_File), (1, t_L_api_Deed)]), 2, 48, .agg ⟨[.slice none 0 0, .slice none 0 0]⟩⟩,
  ⟨.other, 1, 8, .nilFunc⟩,
  ⟨.other, 1, 8, .nilFunc⟩,
  ⟨.other, 1, 0, .tuple ⟨[.string ⟨⟨[]⟩⟩, .bool false]⟩⟩,
  ⟨.other, 1, 8, .nilFunc⟩,
  ⟨.other, 1, 8, .nilFunc⟩,
  ⟨(.struct [(0, t_int), (1, t_string), (2, t_string)]), 3, 40, .agg ⟨[.int .i64 0, .string ⟨⟨[]⟩⟩, .string ⟨⟨[]⟩⟩]⟩⟩,
  ⟨(.struct [(0, t_int), (1, t_string), (2, t_string)]), 3, 40, .agg ⟨[.int .i64 0, .string ⟨⟨[]⟩⟩, .string ⟨⟨[]⟩⟩]⟩⟩,
  ⟨.other, 1, 0, .tuple ⟨[.agg ⟨[.slice none 0 0, .slice none 0 0]⟩, .int .i64 0]⟩⟩,
  ⟨.other, 1, 8, .nilFunc⟩,
  ⟨.other, 1, 8, .nilFunc⟩,
  ⟨.other, 1, 8, .nilFunc⟩,
  ⟨(.struct [(0, t_api_Disk), (2, t_string), (3, t_string), (4, t_int), (5, t_int), (6, t_string)]), 7, 112, .agg ⟨[.slice none 0 0, .slice none 0 0, .string ⟨⟨[]⟩⟩, .string ⟨⟨[]⟩⟩, .int .i64 0, .int .i64 0, .string ⟨⟨[]⟩⟩]⟩⟩,
  ⟨(.struct [(0, t_api_Disk), (2, t_string), (3, t_string), (4, t_int), (5, t_int), (6, t_string)]), 7, 112, .agg ⟨[.slice none 0 0, .slice none 0 0, .string ⟨⟨[]⟩⟩, .string ⟨⟨[]⟩⟩, .int .i64 0, .int .i64 0, .string ⟨⟨[]⟩⟩]⟩⟩,
  ⟨.other, 1, 0, .tuple ⟨[.agg ⟨[.slice none 0 0, .slice none 0 0]⟩, .int .i64 0, .int .i64 0]⟩⟩,
  ⟨.other, 1, 8, .nilFunc⟩,
  ⟨.other, 1, 8, .nilFunc⟩,
  ⟨.other, 1, 8, .nilFunc⟩,
  ⟨(.array 2 t_int), 2, 16, .agg ⟨[.int .i64 0, .int .i64 0]⟩⟩,
  ⟨.other, 1, 8, .nilFunc⟩,
  ⟨.other, 1, 8, .nilFunc⟩,
  ⟨.other, 1, 8, .nilFunc⟩,
  ⟨.other, 1, 8, .nilFunc⟩,
  ⟨.other, 1, 8, .nilFunc⟩,
  ⟨.other, 1, 8, .nilFunc⟩,
  ⟨.other, 1, 8, .nilFunc⟩,
  ⟨.other, 1, 8, .nilFunc⟩,
  ⟨.other, 1, 8, .nilFunc⟩,
  ⟨.other, 1, 8, .nilFunc⟩,
  ⟨.other, 1, 8, .nilFunc⟩,
  ⟨.other, 1, 8, .nilFunc⟩,
  ⟨.other, 1, 8, .nilFunc⟩,
  ⟨.other, 1, 8, .nilFunc⟩,
  ⟨.other, 1, 8, .nilFunc⟩,
  ⟨.other, 1, 8, .nilFunc⟩,
  ⟨.other, 1, 8, .nilFunc⟩,
  ⟨.other, 1, 8, .nilFunc⟩,
  ⟨(.struct [(0, t_string), (1, t_string)]), 2, 32, .agg ⟨[.string ⟨⟨[]⟩⟩, .string ⟨⟨[]⟩⟩]⟩⟩,
  ⟨(.struct [(0, t_string), (1, t_string)]), 2, 32, .agg ⟨[.string ⟨⟨[]⟩⟩, .string ⟨⟨[]⟩⟩]⟩⟩,
  ⟨(.slice t_uint8), 1, 24, .slice none 0 0⟩,
  ⟨.other, 1, 8, .nilFunc⟩,
  ⟨.other, 1, 0, .tuple ⟨[.slice none 0 0, .bool false]⟩⟩,
  ⟨.other, 1, 8, .nilFunc⟩,
  ⟨.other, 1, 8, .nilFunc⟩,
  ⟨.other, 1, 8, .nilFunc⟩,
  ⟨.other, 1, 0, .tuple ⟨[.int .i64 0, .bool false]⟩⟩,
  ⟨.other, 1, 8, .nilFunc⟩,
  ⟨.other, 1, 8, .nilFunc⟩,
  ⟨.other, 1, 8, .nilFunc⟩,
  ⟨.other, 1, 8, .nilFunc⟩,
  ⟨.other, 1, 8, .nilFunc⟩,
  ⟨.other, 1, 8, .pointer none⟩,
  ⟨(.struct []), 0, 0, .agg ⟨[]⟩⟩,
  ⟨(.struct []), 0, 0, .agg ⟨[]⟩⟩,
  ⟨(.struct []), 0, 0, .agg ⟨[]⟩⟩,
  ⟨(.struct [(0, t_atomic_noCopy), (0, t_atomic_align64), (0, t_int64)]), 1, 8, .agg ⟨[.int .i64 0]⟩⟩,
  ⟨(.struct [(0, t_atomic_noCopy), (0, t_atomic_align64), (0, t_int64)]), 1, 8, .agg ⟨[.int .i64 0]⟩⟩,
  ⟨(.struct [(0, t_atomic_Int64), (1, t_int)]), 2, 16, .agg ⟨[.int .i64 0, .int .i64 0]⟩⟩,
  ⟨(.struct [(0, t_atomic_Int64), (1, t_int)]), 2, 16, .agg ⟨[.int .i64 0, .int .i64 0]⟩⟩,
  ⟨.other, 1, 8, .nilFunc⟩,
  ⟨.other, 1, 8, .nilFunc⟩,
  ⟨.other, 1, 8, .nilFunc⟩,
  ⟨.other, 1, 8, .nilFunc⟩,
  ⟨.other, 1, 8, .nilFunc⟩,
  ⟨.other, 1, 8, .nilFunc⟩,
  ⟨.other, 1, 8, .nilFunc⟩,
  ⟨.other, 1, 8, .nilFunc⟩,
  ⟨.other, 1, 8, .nilFunc⟩,
  ⟨.other, 1, 8, .nilFunc⟩,
  ⟨.other, 1, 8, .nilFunc⟩,
  ⟨.other, 1, 8, .nilFunc⟩,
  ⟨.other, 1, 8, .nilFunc⟩,
  ⟨.other, 1, 8, .nilFunc⟩,
  ⟨.other, 1, 8, .nilFunc⟩,
  ⟨.other, 1, 8, .nilFunc⟩,
  ⟨.other, 1, 8, .nilFunc⟩,
  ⟨.other, 1, 8, .nilFunc⟩,
  ⟨.other, 1, 8, .nilFunc⟩,
  ⟨.other, 1, 8, .pointer none⟩,
  ⟨.other, 1, 8, .nilFunc⟩,
  ⟨.other, 1, 8, .pointer none⟩,
  ⟨.other, 1, 8, .nilFunc⟩,
  ⟨.other, 1, 8, .nilFunc⟩,
  ⟨.other, 1, 8, .nilFunc⟩,
  ⟨(.int .u64), 1, 8, .int .u64 0⟩,
  ⟨.other, 1, 8, .nilFunc⟩,
  ⟨.other, 1, 8, .nilFunc⟩,
  ⟨.other, 1, 8, .nilFunc⟩,
  ⟨.other, 1, 8, .nilFunc⟩,
  ⟨.other, 1, 8, .nilFunc⟩,
  ⟨(.struct [(0, t_P_abi_Type), (1, t_P_abi_Type), (2, t_P_abi_Type), (3, t_string)]), 4, 40, .agg ⟨[.pointer none, .pointer none, .pointer none, .string ⟨⟨[]⟩⟩]⟩⟩,
  ⟨(.struct [(0, t_P_abi_Type), (1, t_P_abi_Type), (2, t_P_abi_Type), (3, t_string)]), 4, 40, .agg ⟨[.pointer none, .pointer none, .pointer none, .string ⟨⟨[]⟩⟩]⟩⟩,
  ⟨(.array 0 t_P_runtime_PanicNilError), 0, 0, .agg ⟨[]⟩⟩,
  ⟨(.struct [(0, t__0_P_runtime_PanicNilError)]), 0, 0, .agg ⟨[]⟩⟩,
  ⟨(.struct [(0, t__0_P_runtime_PanicNilError)]), 0, 0, .agg ⟨[]⟩⟩,
  ⟨.other, 1, 8, .nilFunc⟩,
  ⟨(.int .u32), 1, 4, .int .u32 0⟩,
  ⟨(.int .u8), 1, 1, .int .u8 0⟩,
  ⟨(.int .u8), 1, 1, .int .u8 0⟩,
  ⟨.other, 1, 8, .nilFunc⟩,
  ⟨.other, 1, 8, .pointer none⟩,
  ⟨(.int .i32), 1, 4, .int .i32 0⟩,
  ⟨(.int .i32), 1, 4, .int .i32 0⟩,
  ⟨(.struct [(0, t_uintptr), (1, t_uintptr), (2, t_uint32), (3, t_abi_TFlag), (4, t_uint8), (5, t_uint8), (6, t_abi_Kind), (7, t_func_unsafe_Pointer__unsafe_Pointer__bool), (8, t_P_uint8), (9, t_abi_NameOff), (10, t_abi_TypeOff)]), 11, 48, .agg ⟨[.int .u64 0, .int .u64 0, .int .u32 0, .int .u8 0, .int .u8 0, .int .u8 0, .int .u8 0, .nilFunc, .pointer none, .int .i32 0, .int .i32 0]⟩⟩,
  ⟨(.struct [(0, t_uintptr), (1, t_uintptr), (2, t_uint32), (3, t_abi_TFlag), (4, t_uint8), (5, t_uint8), (6, t_abi_Kind), (7, t_func_unsafe_Pointer__unsafe_Pointer__bool), (8, t_P_uint8), (9, t_abi_NameOff), (10, t_abi_TypeOff)]), 11, 48, .agg ⟨[.int .u64 0, .int .u64 0, .int .u32 0, .int .u8 0, .int .u8 0, .int .u8 0, .int .u8 0, .nilFunc, .pointer none, .int .i32 0, .int .i32 0]⟩⟩,
  ⟨.other, 1, 8, .pointer none⟩]
def D (t : TypeId) : TInfo := tabD.getD t TInfo.off
theorem tok_0 : TOk Try.prog 0 (tabD.getD 0 TInfo.off) := tok_mk (by kernel_rfl) (by kernel_rfl)
theorem tok_1 : TOk Try.prog 1 (tabD.getD 1 TInfo.off) := tok_mk (by kernel_rfl) (by kernel_rfl)
theorem tok_2 : TOk Try.prog 2 (tabD.getD 2 TInfo.off) := tok_mk (by kernel_rfl) (by kernel_rfl)
theorem tok_3 : TOk Try.prog 3 (tabD.getD 3 TInfo.off) := tok_mk (by kernel_rfl) (by kernel_rfl)
theorem tok_4 : TOk Try.prog 4 (tabD.getD 4 TInfo.off) := tok_mk (by kernel_rfl) (by kernel_rfl)
theorem tok_5 : TOk Try.prog 5 (tabD.getD 5 TInfo.off) := tok_mk (by kernel_rfl) (by kernel_rfl)
theorem tok_6 : TOk Try.prog 6 (tabD.getD 6 TInfo.off) := tok_mk (by kernel_rfl) (by kernel_rfl)
theorem tok_7 : TOk Try.prog 7 (tabD.getD 7 TInfo.off) := tok_mk (by kernel_rfl) (by kernel_rfl)
theorem tok_8 : TOk Try.prog 8 (tabD.getD 8 TInfo.off) := tok_mk (by kernel_rfl) (by kernel_rfl)
theorem tok_9 : TOk Try.prog 9 (tabD.getD 9 TInfo.off) := tok_mk (by kernel_rfl) (by kernel_rfl)
theorem tok_10 : TOk Try.prog 10 (tabD.getD 10 TInfo.off) := tok_mk (by kernel_rfl) (by kernel_rfl)
theorem tok_11 : TOk Try.prog 11 (tabD.getD 11 TInfo.off) := tok_mk (by kernel_rfl) (by kernel_rfl)
theorem tok_12 : TOk Try.prog 12 (tabD.getD 12 TInfo.off) := tok_mk (by kernel_rfl) (by kernel_rfl)
theorem tok_13 : TOk Try.prog 13 (tabD.getD 13 TInfo.off) := tok_mk (by kernel_rfl) (by kernel_rfl)
theorem tok_14 : TOk Try.prog 14 (tabD.getD 14 TInfo.off) := tok_mk (by kernel_rfl) (by kernel_rfl)
theorem tok_15 : TOk Try.prog 15 (tabD.getD 15 TInfo.off) := tok_mk (by kernel_rfl) (by kernel_rfl)
theorem tok_16 : TOk Try.prog 16 (tabD.getD 16 TInfo.off) := tok_mk (by kernel_rfl) (by kernel_rfl)
theorem tok_17 : TOk Try.prog 17 (tabD.getD 17 TInfo.off) := tok_mk (by kernel_rfl) (by kernel_rfl)
theorem tok_18 : TOk Try.prog 18 (tabD.getD 18 TInfo.off) := tok_mk (by kernel_rfl) (by kernel_rfl)
theorem tok_19 : TOk Try.prog 19 (tabD.getD 19 TInfo.off) := tok_mk (by kernel_rfl) (by kernel_rfl)
theorem tok_20 : TOk Try.prog 20 (tabD.getD 20 TInfo.off) := tok_mk (by kernel_rfl) (by kernel_rfl)
theorem tok_21 : TOk Try.prog 21 (tabD.getD 21 TInfo.off) := tok_mk (by kernel_rfl) (by kernel_rfl)
theorem tok_22 : TOk Try.prog 22 (tabD.getD 22 TInfo.off) := tok_mk (by kernel_rfl) (by kernel_rfl)
theorem tok_23 : TOk Try.prog 23 (tabD.getD 23 TInfo.off) := tok_mk (by kernel_rfl) (by kernel_rfl)
theorem tok_24 : TOk Try.prog 24 (tabD.getD 24 TInfo.off) := tok_mk (by kernel_rfl) (by kernel_rfl)
theorem tok_25 : TOk Try.prog 25 (tabD.getD 25 TInfo.off) := tok_mk (by kernel_rfl) (by kernel_rfl)
theorem tok_26 : TOk Try.prog 26 (tabD.getD 26 TInfo.off) := tok_mk (by kernel_rfl) (by kernel_rfl)
theorem tok_27 : TOk Try.prog 27 (tabD.getD 27 TInfo.off) := tok_mk (by kernel_rfl) (by kernel_rfl)
theorem tok_28 : TOk Try.prog 28 (tabD.getD 28 TInfo.off) := tok_mk (by kernel_rfl) (by kernel_rfl)
theorem tok_29 : TOk Try.prog 29 (tabD.getD 29 TInfo.off) := tok_mk (by kernel_rfl) (by kernel_rfl)
theorem tok_30 : TOk Try.prog 30 (tabD.getD 30 TInfo.off) := tok_mk (by kernel_rfl) (by kernel_rfl)
theorem tok_31 : TOk Try.prog 31 (tabD.getD 31 TInfo.off) := tok_mk (by kernel_rfl) (by kernel_rfl)
theorem tok_32 : TOk Try.prog 32 (tabD.getD 32 TInfo.off) := tok_mk (by kernel_rfl) (by kernel_rfl)
theorem tok_33 : TOk Try.prog 33 (tabD.getD 33 TInfo.off) := tok_mk (by kernel_rfl) (by kernel_rfl)
theorem tok_34 : TOk Try.prog 34 (tabD.getD 34 TInfo.off) := tok_mk (by kernel_rfl) (by kernel_rfl)
theorem tok_35 : TOk Try.prog 35 (tabD.getD 35 TInfo.off) := tok_mk (by kernel_rfl) (by kernel_rfl)
theorem tok_36 : TOk Try.prog 36 (tabD.getD 36 TInfo.off) := tok_mk (by kernel_rfl) (by kernel_rfl)
theorem tok_37 : TOk Try.prog 37 (tabD.getD 37 TInfo.off) := tok_mk (by kernel_rfl) (by kernel_rfl)
theorem tok_38 : TOk Try.prog 38 (tabD.getD 38 TInfo.off) := tok_mk (by kernel_rfl) (by kernel_rfl)
theorem tok_39 : TOk Try.prog 39 (tabD.getD 39 TInfo.off) := tok_mk (by kernel_rfl) (by kernel_rfl)
theorem tok_40 : TOk Try.prog 40 (tabD.getD 40 TInfo.off) := tok_mk (by kernel_rfl) (by kernel_rfl)
theorem tok_41 : TOk Try.prog 41 (tabD.getD 41 TInfo.off) := tok_mk (by kernel_rfl) (by kernel_rfl)
theorem tok_42 : TOk Try.prog 42 (tabD.getD 42 TInfo.off) := tok_mk (by kernel_rfl) (by kernel_rfl)
theorem tok_43 : TOk Try.prog 43 (tabD.getD 43 TInfo.off) := tok_mk (by kernel_rfl) (by kernel_rfl)
theorem tok_44 : TOk Try.prog 44 (tabD.getD 44 TInfo.off) := tok_mk (by kernel_rfl) (by kernel_rfl)
theorem tok_45 : TOk Try.prog 45 (tabD.getD 45 TInfo.off) := tok_mk (by kernel_rfl) (by kernel_rfl)
theorem tok_46 : TOk Try.prog 46 (tabD.getD 46 TInfo.off) := tok_mk (by kernel_rfl) (by kernel_rfl)
theorem tok_47 : TOk Try.prog 47 (tabD.getD 47 TInfo.off) := tok_mk (by kernel_rfl) (by kernel_rfl)
theorem tok_48 : TOk Try.prog 48 (tabD.getD 48 TInfo.off) := tok_mk (by kernel_rfl) (by kernel_rfl)
theorem tok_49 : TOk Try.prog 49 (tabD.getD 49 TInfo.off) := tok_mk (by kernel_rfl) (by kernel_rfl)
theorem tok_50 : TOk Try.prog 50 (tabD.getD 50 TInfo.off) := tok_mk (by kernel_rfl) (by kernel_rfl)
theorem tok_51 : TOk Try.prog 51 (tabD.getD 51 TInfo.off) := tok_mk (by kernel_rfl) (by kernel_rfl)
theorem tok_52 : TOk Try.prog 52 (tabD.getD 52 TInfo.off) := tok_mk (by kernel_rfl) (by kernel_rfl)
theorem tok_53 : TOk Try.prog 53 (tabD.getD 53 TInfo.off) := tok_mk (by kernel_rfl) (by kernel_rfl)
theorem tok_54 : TOk Try.prog 54 (tabD.getD 54 TInfo.off) := tok_mk (by kernel_rfl) (by kernel_rfl)
theorem tok_55 : TOk Try.prog 55 (tabD.getD 55 TInfo.off) := tok_mk (by kernel_rfl) (by kernel_rfl)
theorem tok_56 : TOk Try.prog 56 (tabD.getD 56 TInfo.off) := tok_mk (by kernel_rfl) (by kernel_rfl)
theorem tok_57 : TOk Try.prog 57 (tabD.getD 57 TInfo.off) := tok_mk (by kernel_rfl) (by kernel_rfl)
theorem tok_58 : TOk Try.prog 58 (tabD.getD 58 TInfo.off) := tok_mk (by kernel_rfl) (by kernel_rfl)
theorem tok_59 : TOk Try.prog 59 (tabD.getD 59 TInfo.off) := tok_mk (by kernel_rfl) (by kernel_rfl)
theorem tok_60 : TOk Try.prog 60 (tabD.getD 60 TInfo.off) := tok_mk (by kernel_rfl) (by kernel_rfl)
theorem tok_61 : TOk Try.prog 61 (tabD.getD 61 TInfo.off) := tok_mk (by kernel_rfl) (by kernel_rfl)
theorem tok_62 : TOk Try.prog 62 (tabD.getD 62 TInfo.off) := tok_mk (by kernel_rfl) (by kernel_rfl)
theorem tok_63 : TOk Try.prog 63 (tabD.getD 63 TInfo.off) := tok_mk (by kernel_rfl) (by kernel_rfl)
theorem tok_64 : TOk Try.prog 64 (tabD.getD 64 TInfo.off) := tok_mk (by kernel_rfl) (by kernel_rfl)
theorem tok_65 : TOk Try.prog 65 (tabD.getD 65 TInfo.off) := tok_mk (by kernel_rfl) (by kernel_rfl)
theorem tok_66 : TOk Try.prog 66 (tabD.getD 66 TInfo.off) := tok_mk (by kernel_rfl) (by kernel_rfl)
theorem tok_67 : TOk Try.prog 67 (tabD.getD 67 TInfo.off) := tok_mk (by kernel_rfl) (by kernel_rfl)
theorem tok_68 : TOk Try.prog 68 (tabD.getD 68 TInfo.off) := tok_mk (by kernel_rfl) (by kernel_rfl)
theorem tok_69 : TOk Try.prog 69 (tabD.getD 69 TInfo.off) := tok_mk (by kernel_rfl) (by kernel_rfl)
theorem tok_70 : TOk Try.prog 70 (tabD.getD 70 TInfo.off) := tok_mk (by kernel_rfl) (by kernel_rfl)
theorem tok_71 : TOk Try.prog 71 (tabD.getD 71 TInfo.off) := tok_mk (by kernel_rfl) (by kernel_rfl)
theorem tok_72 : TOk Try.prog 72 (tabD.getD 72 TInfo.off) := tok_mk (by kernel_rfl) (by kernel_rfl)
theorem tok_73 : TOk Try.prog 73 (tabD.getD 73 TInfo.off) := tok_mk (by kernel_rfl) (by kernel_rfl)
theorem tok_74 : TOk Try.prog 74 (tabD.getD 74 TInfo.off) := tok_mk (by kernel_rfl) (by kernel_rfl)
theorem tok_75 : TOk Try.prog 75 (tabD.getD 75 TInfo.off) := tok_mk (by kernel_rfl) (by kernel_rfl)
theorem tok_76 : TOk Try.prog 76 (tabD.getD 76 TInfo.off) := tok_mk (by kernel_rfl) (by kernel_rfl)
theorem tok_77 : TOk Try.prog 77 (tabD.getD 77 TInfo.off) := tok_mk (by kernel_rfl) (by kernel_rfl)
theorem tok_78 : TOk Try.prog 78 (tabD.getD 78 TInfo.off) := tok_mk (by kernel_rfl) (by kernel_rfl)
theorem tok_79 : TOk Try.prog 79 (tabD.getD 79 TInfo.off) := tok_mk (by kernel_rfl) (by kernel_rfl)
theorem tok_80 : TOk Try.prog 80 (tabD.getD 80 TInfo.off) := tok_mk (by kernel_rfl) (by kernel_rfl)
theorem tok_81 : TOk Try.prog 81 (tabD.getD 81 TInfo.off) := tok_mk (by kernel_rfl) (by kernel_rfl)
theorem tok_82 : TOk Try.prog 82 (tabD.getD 82 TInfo.off) := tok_mk (by kernel_rfl) (by kernel_rfl)
theorem tok_83 : TOk Try.prog 83 (tabD.getD 83 TInfo.off) := tok_mk (by kernel_rfl) (by kernel_rfl)
theorem tok_84 : TOk Try.prog 84 (tabD.getD 84 TInfo.off) := tok_mk (by kernel_rfl) (by kernel_rfl)
theorem tok_85 : TOk Try.prog 85 (tabD.getD 85 TInfo.off) := tok_mk (by kernel_rfl) (by kernel_rfl)
theorem tok_86 : TOk Try.prog 86 (tabD.getD 86 TInfo.off) := tok_mk (by kernel_rfl) (by kernel_rfl)
theorem tok_87 : TOk Try.prog 87 (tabD.getD 87 TInfo.off) := tok_mk (by kernel_rfl) (by kernel_rfl)
theorem tok_88 : TOk Try.prog 88 (tabD.getD 88 TInfo.off) := tok_mk (by kernel_rfl) (by kernel_rfl)
theorem tok_89 : TOk Try.prog 89 (tabD.getD 89 TInfo.off) := tok_mk (by kernel_rfl) (by kernel_rfl)
theorem tok_90 : TOk Try.prog 90 (tabD.getD 90 TInfo.off) := tok_mk (by kernel_rfl) (by kernel_rfl)
theorem tok_91 : TOk Try.prog 91 (tabD.getD 91 TInfo.off) := tok_mk (by kernel_rfl) (by kernel_rfl)
theorem tok_92 : TOk Try.prog 92 (tabD.getD 92 TInfo.off) := tok_mk (by kernel_rfl) (by kernel_rfl)
theorem tok_93 : TOk Try.prog 93 (tabD.getD 93 TInfo.off) := tok_mk (by kernel_rfl) (by kernel_rfl)
theorem tok_94 : TOk Try.prog 94 (tabD.getD 94 TInfo.off) := tok_mk (by kernel_rfl) (by kernel_rfl)
theorem tok_95 : TOk Try.prog 95 (tabD.getD 95 TInfo.off) := tok_mk (by kernel_rfl) (by kernel_rfl)
theorem tok_96 : TOk Try.prog 96 (tabD.getD 96 TInfo.off) := tok_mk (by kernel_rfl) (by kernel_rfl)
theorem tok_97 : TOk Try.prog 97 (tabD.getD 97 TInfo.off) := tok_mk (by kernel_rfl) (by kernel_rfl)
theorem tok_98 : TOk Try.prog 98 (tabD.getD 98 TInfo.off) := tok_mk (by kernel_rfl) (by kernel_rfl)
theorem tok_99 : TOk Try.prog 99 (tabD.getD 99 TInfo.off) := tok_mk (by kernel_rfl) (by kernel_rfl)
theorem tok_100 : TOk Try.prog 100 (tabD.getD 100 TInfo.off) := tok_mk (by kernel_rfl) (by kernel_rfl)
theorem tok_101 : TOk Try.prog 101 (tabD.getD 101 TInfo.off) := tok_mk (by kernel_rfl) (by kernel_rfl)
theorem tok_102 : TOk Try.prog 102 (tabD.getD 102 TInfo.off) := tok_mk (by kernel_rfl) (by kernel_rfl)
theorem tok_103 : TOk Try.prog 103 (tabD.getD 103 TInfo.off) := tok_mk (by kernel_rfl) (by kernel_rfl)
theorem tok_104 : TOk Try.prog 104 (tabD.getD 104 TInfo.off) := tok_mk (by kernel_rfl) (by kernel_rfl)
theorem tok_105 : TOk Try.prog 105 (tabD.getD 105 TInfo.off) := tok_mk (by kernel_rfl) (by kernel_rfl)
theorem tok_106 : TOk Try.prog 106 (tabD.getD 106 TInfo.off) := tok_mk (by kernel_rfl) (by kernel_rfl)
theorem tok_107 : TOk Try.prog 107 (tabD.getD 107 TInfo.off) := tok_mk (by kernel_rfl) (by kernel_rfl)
theorem tok_108 : TOk Try.prog 108 (tabD.getD 108 TInfo.off) := tok_mk (by kernel_rfl) (by kernel_rfl)
theorem tok_109 : TOk Try.prog 109 (tabD.getD 109 TInfo.off) := tok_mk (by kernel_rfl) (by kernel_rfl)
theorem tok_110 : TOk Try.prog 110 (tabD.getD 110 TInfo.off) := tok_mk (by kernel_rfl) (by kernel_rfl)
theorem tok_111 : TOk Try.prog 111 (tabD.getD 111 TInfo.off) := tok_mk (by kernel_rfl) (by kernel_rfl)
theorem tok_112 : TOk Try.prog 112 (tabD.getD 112 TInfo.off) := tok_mk (by kernel_rfl) (by kernel_rfl)
theorem tok_113 : TOk Try.prog 113 (tabD.getD 113 TInfo.off) := tok_mk (by kernel_rfl) (by kernel_rfl)
theorem tok_114 : TOk Try.prog 114 (tabD.getD 114 TInfo.off) := tok_mk (by kernel_rfl) (by kernel_rfl)
theorem tok_115 : TOk Try.prog 115 (tabD.getD 115 TInfo.off) := tok_mk (by kernel_rfl) (by kernel_rfl)
theorem tok_116 : TOk Try.prog 116 (tabD.getD 116 TInfo.off) := tok_mk (by kernel_rfl) (by kernel_rfl)
theorem tok_117 : TOk Try.prog 117 (tabD.getD 117 TInfo.off) := tok_mk (by kernel_rfl) (by kernel_rfl)
theorem tok_118 : TOk Try.prog 118 (tabD.getD 118 TInfo.off) := tok_mk (by kernel_rfl) (by kernel_rfl)
theorem tok_119 : TOk Try.prog 119 (tabD.getD 119 TInfo.off) := tok_mk (by kernel_rfl) (by kernel_rfl)
theorem tok_120 : TOk Try.prog 120 (tabD.getD 120 TInfo.off) := tok_mk (by kernel_rfl) (by kernel_rfl)
theorem tok_121 : TOk Try.prog 121 (tabD.getD 121 TInfo.off) := tok_mk (by kernel_rfl) (by kernel_rfl)
theorem tok_122 : TOk Try.prog 122 (tabD.getD 122 TInfo.off) := tok_mk (by kernel_rfl) (by kernel_rfl)
theorem tok_123 : TOk Try.prog 123 (tabD.getD 123 TInfo.off) := tok_mk (by kernel_rfl) (by kernel_rfl)
theorem tok_124 : TOk Try.prog 124 (tabD.getD 124 TInfo.off) := tok_mk (by kernel_rfl) (by kernel_rfl)
theorem tok_125 : TOk Try.prog 125 (tabD.getD 125 TInfo.off) := tok_mk (by kernel_rfl) (by kernel_rfl)
theorem tok_126 : TOk Try.prog 126 (tabD.getD 126 TInfo.off) := tok_mk (by kernel_rfl) (by kernel_rfl)
theorem tok_127 : TOk Try.prog 127 (tabD.getD 127 TInfo.off) := tok_mk (by kernel_rfl) (by kernel_rfl)
theorem tok_128 : TOk Try.prog 128 (tabD.getD 128 TInfo.off) := tok_mk (by kernel_rfl) (by kernel_rfl)
theorem tok_129 : TOk Try.prog 129 (tabD.getD 129 TInfo.off) := tok_mk (by kernel_rfl) (by kernel_rfl)
theorem tok_130 : TOk Try.prog 130 (tabD.getD 130 TInfo.off) := tok_mk (by kernel_rfl) (by kernel_rfl)
theorem tok_131 : TOk Try.prog 131 (tabD.getD 131 TInfo.off) := tok_mk (by kernel_rfl) (by kernel_rfl)
theorem tok_132 : TOk Try.prog 132 (tabD.getD 132 TInfo.off) := tok_mk (by kernel_rfl) (by kernel_rfl)
theorem tok_133 : TOk Try.prog 133 (tabD.getD 133 TInfo.off) := tok_mk (by kernel_rfl) (by kernel_rfl)
theorem tok_134 : TOk Try.prog 134 (tabD.getD 134 TInfo.off) := tok_mk (by kernel_rfl) (by kernel_rfl)
theorem tok_135 : TOk Try.prog 135 (tabD.getD 135 TInfo.off) := tok_mk (by kernel_rfl) (by kernel_rfl)
theorem tok_136 : TOk Try.prog 136 (tabD.getD 136 TInfo.off) := tok_mk (by kernel_rfl) (by kernel_rfl)
theorem tok_137 : TOk Try.prog 137 (tabD.getD 137 TInfo.off) := tok_mk (by kernel_rfl) (by kernel_rfl)
theorem tok_138 : TOk Try.prog 138 (tabD.getD 138 TInfo.off) := tok_mk (by kernel_rfl) (by kernel_rfl)
theorem tok_139 : TOk Try.prog 139 (tabD.getD 139 TInfo.off) := tok_mk (by kernel_rfl) (by kernel_rfl)
theorem tok_140 : TOk Try.prog 140 (tabD.getD 140 TInfo.off) := tok_mk (by kernel_rfl) (by kernel_rfl)
theorem tok_141 : TOk Try.prog 141 (tabD.getD 141 TInfo.off) := tok_mk (by kernel_rfl) (by kernel_rfl)
theorem tok_142 : TOk Try.prog 142 (tabD.getD 142 TInfo.off) := tok_mk (by kernel_rfl) (by kernel_rfl)
theorem tok_143 : TOk Try.prog 143 (tabD.getD 143 TInfo.off) := tok_mk (by kernel_rfl) (by kernel_rfl)
theorem tok_144 : TOk Try.prog 144 (tabD.getD 144 TInfo.off) := tok_mk (by kernel_rfl) (by kernel_rfl)
theorem tok_145 : TOk Try.prog 145 (tabD.getD 145 TInfo.off) := tok_mk (by kernel_rfl) (by kernel_rfl)
theorem tok_146 : TOk Try.prog 146 (tabD.getD 146 TInfo.off) := tok_mk (by kernel_rfl) (by kernel_rfl)
theorem tok_147 : TOk Try.prog 147 (tabD.getD 147 TInfo.off) := tok_mk (by kernel_rfl) (by kernel_rfl)
theorem tok_148 : TOk Try.prog 148 (tabD.getD 148 TInfo.off) := tok_mk (by kernel_rfl) (by kernel_rfl)
theorem tok_149 : TOk Try.prog 149 (tabD.getD 149 TInfo.off) := tok_mk (by kernel_rfl) (by kernel_rfl)
theorem tok_150 : TOk Try.prog 150 (tabD.getD 150 TInfo.off) := tok_mk (by kernel_rfl) (by kernel_rfl)
theorem tok_151 : TOk Try.prog 151 (tabD.getD 151 TInfo.off) := tok_mk (by kernel_rfl) (by kernel_rfl)
theorem tok_152 : TOk Try.prog 152 (tabD.getD 152 TInfo.off) := tok_mk (by kernel_rfl) (by kernel_rfl)
theorem tok_153 : TOk Try.prog 153 (tabD.getD 153 TInfo.off) := tok_mk (by kernel_rfl) (by kernel_rfl)
theorem tok_154 : TOk Try.prog 154 (tabD.getD 154 TInfo.off) := tok_mk (by kernel_rfl) (by kernel_rfl)
theorem tok_155 : TOk Try.prog 155 (tabD.getD 155 TInfo.off) := tok_mk (by kernel_rfl) (by kernel_rfl)
theorem tok_156 : TOk Try.prog 156 (tabD.getD 156 TInfo.off) := tok_mk (by kernel_rfl) (by kernel_rfl)
theorem tok_157 : TOk Try.prog 157 (tabD.getD 157 TInfo.off) := tok_mk (by kernel_rfl) (by kernel_rfl)
theorem tok_158 : TOk Try.prog 158 (tabD.getD 158 TInfo.off) := tok_mk (by kernel_rfl) (by kernel_rfl)
theorem allT : AllT Try.prog 0 tabD := ⟨tok_0, tok_1, tok_2, tok_3, tok_4, tok_5, tok_6, tok_7, tok_8, tok_9, tok_10, tok_11, tok_12, tok_13, tok_14, tok_15, tok_16, tok_17, tok_18, tok_19, tok_20, tok_21, tok_22, tok_23, tok_24, tok_25, tok_26, tok_27, tok_28, tok_29, tok_30, tok_31, tok_32, tok_33, tok_34, tok_35, tok_36, tok_37, tok_38, tok_39, tok_40, tok_41, tok_42, tok_43, tok_44, tok_45, tok_46, tok_47, tok_48, tok_49, tok_50, tok_51, tok_52, tok_53, tok_54, tok_55, tok_56, tok_57, tok_58, tok_59, tok_60, tok_61, tok_62, tok_63, tok_64, tok_65, tok_66, tok_67, tok_68, tok_69, tok_70, tok_71, tok_72, tok_73, tok_74, tok_75, tok_76, tok_77, tok_78, tok_79, tok_80, tok_81, tok_82, tok_83, tok_84, tok_85, tok_86, tok_87, tok_88, tok_89, tok_90, tok_91, tok_92, tok_93, tok_94, tok_95, tok_96, tok_97, tok_98, tok_99, tok_100, tok_101, tok_102, tok_103, tok_104, tok_105, tok_106, tok_107, tok_108, tok_109, tok_110, tok_111, tok_112, tok_113, tok_114, tok_115, tok_116, tok_117, tok_118, tok_119, tok_120, tok_121, tok_122, tok_123, tok_124, tok_125, tok_126, tok_127, tok_128, tok_129, tok_130, tok_131, tok_132, tok_133, tok_134, tok_135, tok_136, tok_137, tok_138, tok_139, tok_140, tok_141, tok_142, tok_143, tok_144, tok_145, tok_146, tok_147, tok_148, tok_149, tok_150, tok_151, tok_152, tok_153, tok_154, tok_155, tok_156, tok_157, tok_158, trivial⟩
theorem hD (t : TypeId) : TOk Try.prog t (D t) := by have h := allT_get tabD 0 t allT; rwa [Nat.zero_add] at h
theorem hmix : Try.prog.follows .mixedOrders = true := by kernel_rfl
theorem D_all : D t_int64 = ⟨(.int .i64), 1, 8, .int .i64 0⟩ ∧ D t_int = ⟨(.int .i64), 1, 8, .int .i64 0⟩ ∧ D t_bool = ⟨.bool, 1, 1, .bool false⟩ ∧ D t_uint8 = ⟨(.int .u8), 1, 1, .int .u8 0⟩ ∧ D t_abi_BoundsErrorCode = ⟨(.int .u8), 1, 1, .int .u8 0⟩ ∧ D t_struct___x_int64__y_int__signed_bool__code_abi_BoundsErrorCode__ = ⟨(.struct [(0, t_int64), (1, t_int), (2, t_bool), (3, t_abi_BoundsErrorCode)]), 4, 24, .agg ⟨[.int .i64 0, .int .i64 0, .bool false, .int .u8 0]⟩⟩ ∧ D t_runtime_boundsError = ⟨(.struct [(0, t_int64), (1, t_int), (2, t_bool), (3, t_abi_BoundsErrorCode)]), 4, 24, .agg ⟨[.int .i64 0, .int .i64 0, .bool false, .int .u8 0]⟩⟩ ∧ D t_string = ⟨.str, 1, 16, .string ⟨⟨[]⟩⟩⟩ ∧ D t_runtime_errorString = ⟨.str, 1, 16, .string ⟨⟨[]⟩⟩⟩ ∧ D t_runtime_plainError = ⟨.str, 1, 16, .string ⟨⟨[]⟩⟩⟩ ∧ D t_uintptr = ⟨(.int .u64), 1, 8, .int .u64 0⟩ ∧ D t_struct___msg_string__addr_uintptr__ = ⟨(.struct [(0, t_string), (1, t_uintptr)]), 2, 24, .agg ⟨[.string ⟨⟨[]⟩⟩, .int .u64 0]⟩⟩ ∧ D t_runtime_errorAddressString = ⟨(.struct [(0, t_string), (1, t_uintptr)]), 2, 24, .agg ⟨[.string ⟨⟨[]⟩⟩, .int .u64 0]⟩⟩ ∧ D t_struct___typ_P_abi_Type__ = ⟨(.struct [(0, t_P_abi_Type)]), 1, 8, .agg ⟨[.pointer none]⟩⟩ ∧ D t_maps_unhashableTypeError = ⟨(.struct [(0, t_P_abi_Type)]), 1, 8, .agg ⟨[.pointer none]⟩⟩ ∧ D t_int32 = ⟨(.int .i32), 1, 4, .int .i32 0⟩ ∧ D t_L_api_Node = ⟨(.slice t_api_Node), 1, 24, .slice none 0 0⟩ ∧ D t_api_Val = ⟨(.slice t_api_Node), 1, 24, .slice none 0 0⟩ ∧ D t_L_api_Val = ⟨(.slice t_api_Val), 1, 24, .slice none 0 0⟩ ∧ D t_L_int = ⟨(.slice t_int), 1, 24, .slice none 0 0⟩ ∧ D t_L_L_int = ⟨(.slice t_L_int), 1, 24, .slice none 0 0⟩ ∧ D t_struct___Kind_int__Many_int__Name_string__S_string__Neg_bool__E_int__ = ⟨(.struct [(0, t_int), (1, t_int), (2, t_string), (3, t_string), (4, t_bool), (5, t_int)]), 6, 64, .agg ⟨[.int .i64 0, .int .i64 0, .string ⟨⟨[]⟩⟩, .string ⟨⟨[]⟩⟩, .bool false, .int .i64 0]⟩⟩ ∧ D t_api_Node = ⟨(.struct [(0, t_int), (1, t_int), (2, t_string), (3, t_string), (4, t_bool), (5, t_int)]), 6, 64, .agg ⟨[.int .i64 0, .int .i64 0, .string ⟨⟨[]⟩⟩, .string ⟨⟨[]⟩⟩, .bool false, .int .i64 0]⟩⟩ ∧ D t_L_bool = ⟨(.slice t_bool), 1, 24, .slice none 0 0⟩ ∧ D t__2_string = ⟨(.array 2 t_string), 2, 32, .agg ⟨[.string ⟨⟨[]⟩⟩, .string ⟨⟨[]⟩⟩]⟩⟩ ∧ D t_api_Errno = ⟨(.int .i64), 1, 8, .int .i64 0⟩ ∧ D t_L_string = ⟨(.slice t_string), 1, 24, .slice none 0 0⟩ ∧ D t_L_api_File = ⟨(.slice t_api_File), 1, 24, .slice none 0 0⟩ ∧ D t_L_api_Deed = ⟨(.slice t_api_Deed), 1, 24, .slice none 0 0⟩ ∧ D t_struct___L_L_api_File__D_L_api_Deed__ = ⟨(.struct [(0, t_L_api_File), (1, t_L_api_Deed)]), 2, 48, .agg ⟨[.slice none 0 0, .slice none 0 0]⟩⟩ ∧ D t_api_Disk = ⟨(.struct [(0, t_L_api_File), (1, t_L_api_Deed)]), 2, 48, .agg ⟨[.slice none 0 0, .slice none 0 0]⟩⟩ ∧ D t_struct___Kind_int__Name_string__S_string__ = ⟨(.struct [(0, t_int), (1, t_string), (2, t_string)]), 3, 40, .agg ⟨[.int .i64 0, .string ⟨⟨[]⟩⟩, .string ⟨⟨[]⟩⟩]⟩⟩ ∧ D t_api_Deed = ⟨(.struct [(0, t_int), (1, t_string), (2, t_string)]), 3, 40, .agg ⟨[.int .i64 0, .string ⟨⟨[]⟩⟩, .string ⟨⟨[]⟩⟩]⟩⟩ ∧ D t_struct___D_api_Disk__Name_string__S_string__Stop_int__N_int__Other_string__ = ⟨(.struct [(0, t_api_Disk), (2, t_string), (3, t_string), (4, t_int), (5, t_int), (6, t_string)]), 7, 112, .agg ⟨[.slice none 0 0, .slice none 0 0, .string ⟨⟨[]⟩⟩, .string ⟨⟨[]⟩⟩, .int .i64 0, .int .i64 0, .string ⟨⟨[]⟩⟩]⟩⟩ ∧ D t_loupelaw23_SaveIn = ⟨(.struct [(0, t_api_Disk), (2, t_string), (3, t_string), (4, t_int), (5, t_int), (6, t_string)]), 7, 112, .agg ⟨[.slice none 0 0, .slice none 0 0, .string ⟨⟨[]⟩⟩, .string ⟨⟨[]⟩⟩, .int .i64 0, .int .i64 0, .string ⟨⟨[]⟩⟩]⟩⟩ ∧ D t__2_int = ⟨(.array 2 t_int), 2, 16, .agg ⟨[.int .i64 0, .int .i64 0]⟩⟩ ∧ D t_struct___Name_string__S_string__ = ⟨(.struct [(0, t_string), (1, t_string)]), 2, 32, .agg ⟨[.string ⟨⟨[]⟩⟩, .string ⟨⟨[]⟩⟩]⟩⟩ ∧ D t_api_File = ⟨(.struct [(0, t_string), (1, t_string)]), 2, 32, .agg ⟨[.string ⟨⟨[]⟩⟩, .string ⟨⟨[]⟩⟩]⟩⟩ ∧ D t_L_uint8 = ⟨(.slice t_uint8), 1, 24, .slice none 0 0⟩ ∧ D t_struct___ = ⟨(.struct []), 0, 0, .agg ⟨[]⟩⟩ ∧ D t_atomic_noCopy = ⟨(.struct []), 0, 0, .agg ⟨[]⟩⟩ ∧ D t_atomic_align64 = ⟨(.struct []), 0, 0, .agg ⟨[]⟩⟩ ∧ D t_struct_____atomic_noCopy____atomic_align64__v_int64__ = ⟨(.struct [(0, t_atomic_noCopy), (0, t_atomic_align64), (0, t_int64)]), 1, 8, .agg ⟨[.int .i64 0]⟩⟩ ∧ D t_atomic_Int64 = ⟨(.struct [(0, t_atomic_noCopy), (0, t_atomic_align64), (0, t_int64)]), 1, 8, .agg ⟨[.int .i64 0]⟩⟩ ∧ D t_struct___n_atomic_Int64__stop_int__ = ⟨(.struct [(0, t_atomic_Int64), (1, t_int)]), 2, 16, .agg ⟨[.int .i64 0, .int .i64 0]⟩⟩ ∧ D t_file_saver = ⟨(.struct [(0, t_atomic_Int64), (1, t_int)]), 2, 16, .agg ⟨[.int .i64 0, .int .i64 0]⟩⟩ ∧ D t_uint = ⟨(.int .u64), 1, 8, .int .u64 0⟩ ∧ D t_struct____interface_P_abi_Type__concrete_P_abi_Type__asserted_P_abi_Type__missingMethod_string__ = ⟨(.struct [(0, t_P_abi_Type), (1, t_P_abi_Type), (2, t_P_abi_Type), (3, t_string)]), 4, 40, .agg ⟨[.pointer none, .pointer none, .pointer none, .string ⟨⟨[]⟩⟩]⟩⟩ ∧ D t_runtime_TypeAssertionError = ⟨(.struct [(0, t_P_abi_Type), (1, t_P_abi_Type), (2, t_P_abi_Type), (3, t_string)]), 4, 40, .agg ⟨[.pointer none, .pointer none, .pointer none, .string ⟨⟨[]⟩⟩]⟩⟩ ∧ D t__0_P_runtime_PanicNilError = ⟨(.array 0 t_P_runtime_PanicNilError), 0, 0, .agg ⟨[]⟩⟩ ∧ D t_struct______0_P_runtime_PanicNilError__ = ⟨(.struct [(0, t__0_P_runtime_PanicNilError)]), 0, 0, .agg ⟨[]⟩⟩ ∧ D t_runtime_PanicNilError = ⟨(.struct [(0, t__0_P_runtime_PanicNilError)]), 0, 0, .agg ⟨[]⟩⟩ ∧ D t_uint32 = ⟨(.int .u32), 1, 4, .int .u32 0⟩ ∧ D t_abi_TFlag = ⟨(.int .u8), 1, 1, .int .u8 0⟩ ∧ D t_abi_Kind = ⟨(.int .u8), 1, 1, .int .u8 0⟩ ∧ D t_abi_NameOff = ⟨(.int .i32), 1, 4, .int .i32 0⟩ ∧ D t_abi_TypeOff = ⟨(.int .i32), 1, 4, .int .i32 0⟩ ∧ D t_struct___Size__uintptr__PtrBytes_uintptr__Hash_uint32__TFlag_abi_TFlag__Align__uint8__FieldAlign__uint8__Kind__abi_Kind__Equal_func_unsafe_Pointer__unsafe_Pointer__bool__GCData_P_uint8__Str_abi_NameOff__PtrToThis_abi_TypeOff__ = ⟨(.struct [(0, t_uintptr), (1, t_uintptr), (2, t_uint32), (3, t_abi_TFlag), (4, t_uint8), (5, t_uint8), (6, t_abi_Kind), (7, t_func_unsafe_Pointer__unsafe_Pointer__bool), (8, t_P_uint8), (9, t_abi_NameOff), (10, t_abi_TypeOff)]), 11, 48, .agg ⟨[.int .u64 0, .int .u64 0, .int .u32 0, .int .u8 0, .int .u8 0, .int .u8 0, .int .u8 0, .nilFunc, .pointer none, .int .i32 0, .int .i32 0]⟩⟩ ∧ D t_abi_Type = ⟨(.struct [(0, t_uintptr), (1, t_uintptr), (2, t_uint32), (3, t_abi_TFlag), (4, t_uint8), (5, t_uint8), (6, t_abi_Kind), (7, t_func_unsafe_Pointer__unsafe_Pointer__bool), (8, t_P_uint8), (9, t_abi_NameOff), (10, t_abi_TypeOff)]), 11, 48, .agg ⟨[.int .u64 0, .int .u64 0, .int .u32 0, .int .u8 0, .int .u8 0, .int .u8 0, .int .u8 0, .nilFunc, .pointer none, .int .i32 0, .int .i32 0]⟩⟩ := by (repeat' constructor) <;> rfl
theorem F_all : f_main_main = 0 ∧ f_gosem_cut = 1 ∧ f_gosem_cut_init = 2 ∧ f_loupelaw05_OrderTells = 3 ∧ f_loupelaw05_OrderGroups = 4 ∧ f_loupelaw05_OrderTotal = 5 ∧ f_loupelaw05_OrderSorted = 6 ∧ f_loupelaw05_OrderJoined = 7 ∧ f_loupelaw05_OrderNested = 8 ∧ f_loupelaw23_FileTells = 9 ∧ f_loupelaw23_FileDoes = 10 ∧ f_loupelaw23_FileSaves = 11 ∧ f_loupelaw23_FileOneOr = 12 ∧ f_loupelaw23_FileFlush = 13 ∧ f_loupelaw23_FileDeeds = 14 ∧ f_loupelaw23_FileTwice = 15 ∧ f_louperef02_Few = 16 ∧ f_louperef02_All = 17 ∧ f_loupelaw05_alive = 18 ∧ f_order_Cmp = 19 ∧ f_louperef05_Cmp = 20 ∧ f_order_Rises = 21 ∧ f_louperef05_Rises = 22 ∧ f_louperef05_Ints = 23 ∧ f_order_Sort = 24 ∧ f_louperef05_Sort = 25 ∧ f_order_Groups = 26 ∧ f_louperef05_Groups = 27 ∧ f_louperef02_Same = 28 ∧ f_louperef05_Pick = 29 ∧ f_louperef02_Utf = 30 ∧ f_louperef02_Object = 31 ∧ f_louperef02_List = 32 ∧ f_louperef23_Small = 33 ∧ f_loupelaw23_alive = 34 ∧ f_louperef23_Right = 35 ∧ f_file_Right = 36 ∧ f_file_Same = 37 ∧ f_louperef23_Same = 38 ∧ f_file_See = 39 ∧ f_louperef23_See = 40 ∧ f_louperef23_Few = 41 ∧ f_file_Do = 42 ∧ f_louperef23_Do = 43 ∧ f_file_Crash = 44 ∧ f_louperef23_Crash = 45 ∧ f__loupelaw23_SaveIn__given = 46 ∧ f_file_Save = 47 ∧ f_louperef23_Save = 48 ∧ f_file_Plan = 49 ∧ f_louperef23_Plan = 50 ∧ f_louperef02_Right = 51 ∧ f_cmp_Compare_int_ = 52 ∧ f_num_Cmp = 53 ∧ f_cmp_Compare_string_ = 54 ∧ f_slices_Compare_L_string_string_ = 55 ∧ f_val_Names = 56 ∧ f_slices_CompareFunc_L_api_Val_L_api_Val_api_Val_api_Val_ = 57 ∧ f_val_Parts = 58 ∧ f_louperef05_sign = 59 ∧ f_louperef01_Cmp = 60 ∧ f_louperef05_rows = 61 ∧ f_louperef02_Parts = 62 ∧ f_louperef05_names = 63 ∧ f_louperef02_Names = 64 ∧ f_slices_IsSortedFunc_L_api_Val_api_Val_ = 65 ∧ f_order_sorted_int_ = 66 ∧ f_order_Sort_1 = 67 ∧ f_louperef02_Rune = 68 ∧ f_louperef02_named = 69 ∧ f_louperef23_name = 70 ∧ f_louperef23_may = 71 ∧ f_louperef23_needs = 72 ∧ f_file_isName = 73 ∧ f_file_done = 74 ∧ f_slices_Equal_L_api_File_api_File_ = 75 ∧ f_slices_Equal_L_api_Deed_api_Deed_ = 76 ∧ f_file_find = 77 ∧ f_louperef23_Seen = 78 ∧ f_louperef23_Find = 79 ∧ f_file_may = 80 ∧ f_slices_Clip_L_api_Deed_api_Deed_ = 81 ∧ f_louperef23_done = 82 ∧ f__P_file_saver__next = 83 ∧ f__P_sync_atomic_Int64__Load = 84 ∧ f_strings_TrimPrefix = 85 ∧ f_louperef02_Next = 86 ∧ f_louperef02_plain = 87 ∧ f_louperef02_rising = 88 ∧ f_cmp_isNaN_int_ = 89 ∧ f_num_size = 90 ∧ f_cmp_isNaN_string_ = 91 ∧ f_val_each = 92 ∧ f_louperef01_at = 93 ∧ f_louperef02_own = 94 ∧ f_order_merged_int_ = 95 ∧ f_louperef02_cont = 96 ∧ f_file_laid = 97 ∧ f_slices_Delete_L_api_File_api_File_ = 98 ∧ f_slices_Clone_L_api_File_api_File_ = 99 ∧ f_slices_BinarySearchFunc_L_api_File_api_File_string_ = 100 ∧ f_file_byName = 101 ∧ f_louperef23_with = 102 ∧ f_louperef23_without = 103 ∧ f__P_sync_atomic_Int64__Add = 104 ∧ f_sync_atomic_LoadInt64 = 105 ∧ f_stringslite_TrimPrefix = 106 ∧ f_louperef01_Right = 107 ∧ f_val_each_1 = 108 ∧ f_val_behind = 109 ∧ f_slices_Clone_api_Val_api_Node_ = 110 ∧ f_slices_Insert_L_api_File_api_File_ = 111 ∧ f_sync_atomic_AddInt64 = 112 ∧ f_stringslite_HasPrefix = 113 ∧ f_louperef01_figures = 114 ∧ f_slices_overlaps_api_File_ = 115 ∧ f_slices_rotateRight_api_File_ = 116 ∧ f_slices_rotateLeft_api_File_ = 117 ∧ f_slices_Reverse_L_api_File_api_File_ = 118 ∧ f__runtime_boundsError__Error = 119 ∧ f__runtime_boundsError__RuntimeError = 120 ∧ f__runtime_errorString__Error = 121 ∧ f__runtime_errorString__RuntimeError = 122 ∧ f__runtime_plainError__Error = 123 ∧ f__runtime_plainError__RuntimeError = 124 ∧ f__runtime_errorAddressString__Error = 125 ∧ f__runtime_errorAddressString__RuntimeError = 126 ∧ f__P_runtime_TypeAssertionError__Error = 127 ∧ f__P_runtime_TypeAssertionError__RuntimeError = 128 ∧ f__P_runtime_PanicNilError__Error = 129 ∧ f__P_runtime_PanicNilError__RuntimeError = 130 ∧ f__P_abi_Type__Align = 131 ∧ f__runtime_maps_unhashableTypeError__Error = 132 ∧ f__runtime_maps_unhashableTypeError__RuntimeError = 133 ∧ f__abi_Kind__String = 134 := by (repeat' constructor) <;> rfl
end Lp

/-! LpC1 -/

namespace Lp
open Go Go.Proofs
def c_louperef02_Few : LC :=
  (.seq (.reg [⟨some 4, .assign (.const (.bool false)), none, false⟩])
  (.seq (.seq (.reg [⟨some 6, .move (.tmp 0), none, false⟩,
   ⟨some 7, .call ⟨.builtin .len, ⟨[(.tmp 6)]⟩, ⟨[t_api_Val]⟩⟩, none, false⟩,
   ⟨some 8, .move (.tmp 1), none, false⟩,
   ⟨some 9, .binOp .gtr t_int (.tmp 7) (.tmp 8) t_int, none, false⟩])
  (.cond (.tmp 9)
   (.seq (.reg [⟨some 4, .assign (.const (.bool false)), none, false⟩])
   .ret)
   .skip))
  (.seq (.seq (.reg [⟨some 5, .assign (.const (.int .i64 0)), none, false⟩])
  (.block 0 (.loop [true, false, false, false, false, true, false, false, false, false, false, false, false, false, false, false, false, false, false, false, false, false, false, false, false, false, false, false, false, false, false, false, false, false] none
   (.seq (.seq (.reg [⟨some 10, .move (.tmp 5), none, false⟩,
     ⟨some 11, .move (.tmp 0), none, false⟩,
     ⟨some 12, .call ⟨.builtin .len, ⟨[(.tmp 11)]⟩, ⟨[t_api_Val]⟩⟩, none, false⟩,
     ⟨some 13, .binOp .lss t_int (.tmp 10) (.tmp 12) t_int, none, false⟩])
    (.cond (.tmp 13)
     .skip
     (.exit 0)))
    (.seq (.block 1 (.seq (.reg [⟨some 16, .move (.tmp 0), none, false⟩,
      ⟨some 17, .move (.tmp 5), none, false⟩,
      ⟨some 18, .indexAddr t_api_Val (.tmp 16) (.tmp 17), none, false⟩,
      ⟨some 19, .fieldAddr t_api_Node (.tmp 18) 3, none, false⟩,
      ⟨some 20, .load t_string (.tmp 19), none, false⟩,
      ⟨some 21, .call ⟨.builtin .len, ⟨[(.tmp 20)]⟩, ⟨[t_string]⟩⟩, none, false⟩,
      ⟨some 22, .binOp .gtr t_int (.tmp 21) (.const (.int .i64 200)) t_int, none, false⟩,
      ⟨some 23, .move (.tmp 22), none, false⟩,
      ⟨some 24, .move (.tmp 0), some (some 23, false), false⟩,
      ⟨some 25, .move (.tmp 5), some (some 23, false), false⟩,
      ⟨some 26, .indexAddr t_api_Val (.tmp 24) (.tmp 25), some (some 23, false), false⟩,
      ⟨some 27, .fieldAddr t_api_Node (.tmp 26) 2, some (some 23, false), false⟩,
      ⟨some 28, .load t_string (.tmp 27), some (some 23, false), false⟩,
      ⟨some 29, .call ⟨.builtin .len, ⟨[(.tmp 28)]⟩, ⟨[t_string]⟩⟩, some (some 23, false), false⟩,
      ⟨some 30, .binOp .gtr t_int (.tmp 29) (.const (.int .i64 200)) t_int, some (some 23, false), false⟩,
      ⟨some 31, .pick (.tmp 23) (.const (.bool true)) (.tmp 30), none, false⟩])
     (.cond (.tmp 31)
      (.seq (.reg [⟨some 4, .assign (.const (.bool false)), none, false⟩])
      .ret)
      .skip)))
    (.reg [⟨some 14, .move (.tmp 5), none, false⟩,
     ⟨some 15, .binOp .add t_int (.tmp 14) (.const (.int .i64 1)) t_int, none, false⟩,
     ⟨some 5, .assign (.tmp 15), none, false⟩]))))))
  (.seq (.reg [⟨some 32, .move (.tmp 0), none, false⟩,
   ⟨some 33, .call ⟨.value (.func f_louperef02_Right), ⟨[(.tmp 32)]⟩, ⟨[t_api_Val]⟩⟩, none, false⟩,
   ⟨some 4, .assign (.tmp 33), none, false⟩])
  .ret))))
theorem k_louperef02_Few : FnOk Try.prog f_louperef02_Few 34 [.tmp 4] c_louperef02_Few := ⟨_, _, Try.func16, by kernel_rfl, rfl, Try.ntmps16, rfl, by kernel_rfl⟩

def c_louperef02_All : LC :=
  (.seq (.reg [⟨some 4, .assign (.const (.bool false)), none, false⟩])
  (.seq (.reg [⟨some 7, .move (.tmp 0), none, false⟩,
   ⟨some 8, .call ⟨.builtin .len, ⟨[(.tmp 7)]⟩, ⟨[t_L_api_Val]⟩⟩, none, false⟩,
   ⟨some 5, .assign (.tmp 8), none, false⟩])
  (.seq (.seq (.reg [⟨some 6, .assign (.const (.int .i64 0)), none, false⟩])
  (.block 0 (.loop [true, true, false, false, false, true, true, false, false, false, false, false, false, false, false, false, false, false, false, false, false, false, false, false, false, false, false, false, false, false, false, false, false, false, false, false, false] none
   (.seq (.seq (.reg [⟨some 9, .move (.tmp 6), none, false⟩,
     ⟨some 10, .move (.tmp 0), none, false⟩,
     ⟨some 11, .call ⟨.builtin .len, ⟨[(.tmp 10)]⟩, ⟨[t_L_api_Val]⟩⟩, none, false⟩,
     ⟨some 12, .binOp .lss t_int (.tmp 9) (.tmp 11) t_int, none, false⟩])
    (.cond (.tmp 12)
     .skip
     (.exit 0)))
    (.seq (.block 1 (.seq (.reg [⟨some 15, .move (.tmp 5), none, false⟩,
      ⟨some 16, .move (.tmp 0), none, false⟩,
      ⟨some 17, .move (.tmp 6), none, false⟩,
      ⟨some 18, .indexAddr t_L_api_Val (.tmp 16) (.tmp 17), none, false⟩,
      ⟨some 19, .load t_api_Val (.tmp 18), none, false⟩,
      ⟨some 20, .call ⟨.builtin .len, ⟨[(.tmp 19)]⟩, ⟨[t_api_Val]⟩⟩, none, false⟩,
      ⟨some 21, .binOp .add t_int (.tmp 15) (.tmp 20) t_int, none, false⟩,
      ⟨some 5, .assign (.tmp 21), none, false⟩])
     (.seq (.reg [⟨some 22, .move (.tmp 5), none, false⟩,
      ⟨some 23, .move (.tmp 1), none, false⟩,
      ⟨some 24, .binOp .gtr t_int (.tmp 22) (.tmp 23) t_int, none, false⟩,
      ⟨some 25, .move (.tmp 24), none, false⟩,
      ⟨some 26, .move (.tmp 0), some (some 25, false), false⟩,
      ⟨some 27, .move (.tmp 6), some (some 25, false), false⟩,
      ⟨some 28, .indexAddr t_L_api_Val (.tmp 26) (.tmp 27), some (some 25, false), false⟩,
      ⟨some 29, .load t_api_Val (.tmp 28), some (some 25, false), false⟩,
      ⟨some 30, .move (.tmp 1), some (some 25, false), false⟩,
      ⟨some 31, .call ⟨.value (.func f_louperef02_Few), ⟨[(.tmp 29), (.tmp 30)]⟩, ⟨[t_api_Val, t_int]⟩⟩, some (some 25, false), false⟩,
      ⟨some 32, .unOp .not t_bool (.tmp 31), some (some 25, false), false⟩,
      ⟨some 33, .pick (.tmp 25) (.const (.bool true)) (.tmp 32), none, false⟩])
     (.cond (.tmp 33)
      (.seq (.reg [⟨some 4, .assign (.const (.bool false)), none, false⟩])
      .ret)
      .skip))))
    (.reg [⟨some 13, .move (.tmp 6), none, false⟩,
     ⟨some 14, .binOp .add t_int (.tmp 13) (.const (.int .i64 1)) t_int, none, false⟩,
     ⟨some 6, .assign (.tmp 14), none, false⟩]))))))
  (.seq (.reg [⟨some 34, .move (.tmp 5), none, false⟩,
   ⟨some 35, .move (.tmp 1), none, false⟩,
   ⟨some 36, .binOp .leq t_int (.tmp 34) (.tmp 35) t_int, none, false⟩,
   ⟨some 4, .assign (.tmp 36), none, false⟩])
  .ret))))
theorem k_louperef02_All : FnOk Try.prog f_louperef02_All 37 [.tmp 4] c_louperef02_All := ⟨_, _, Try.func17, by kernel_rfl, rfl, Try.ntmps17, rfl, by kernel_rfl⟩

def c_order_Cmp : LC :=
  (.seq (.reg [⟨some 4, .assign (.const (.int .i64 0)), none, false⟩])
  (.seq (.seq (.draw [⟨some 7, .move (.tmp 0), none, false⟩,
   ⟨some 8, .indexAddr t_api_Val (.tmp 7) (.const (.int .i64 0)), none, false⟩,
   ⟨some 9, .fieldAddr t_api_Node (.tmp 8) 0, none, false⟩,
   ⟨some 10, .load t_int (.tmp 9), none, false⟩,
   ⟨some 11, .move (.tmp 1), none, false⟩,
   ⟨some 12, .indexAddr t_api_Val (.tmp 11) (.const (.int .i64 0)), none, false⟩,
   ⟨some 13, .fieldAddr t_api_Node (.tmp 12) 0, none, false⟩,
   ⟨some 14, .load t_int (.tmp 13), none, false⟩,
   ⟨some 15, .call ⟨.value (.func f_cmp_Compare_int_), ⟨[(.tmp 10), (.tmp 14)]⟩, ⟨[t_int, t_int]⟩⟩, none, false⟩,
   ⟨some 5, .assign (.tmp 15), none, false⟩]
  [0, 0, 0, 0, 15, 15, 15, 15, 0, 0])
  (.seq (.reg [⟨some 16, .move (.tmp 5), none, false⟩,
   ⟨some 17, .binOp .neq t_int (.tmp 16) (.const (.int .i64 0)) t_int, none, false⟩])
  (.cond (.tmp 17)
   (.seq (.reg [⟨some 18, .move (.tmp 5), none, false⟩,
    ⟨some 4, .assign (.tmp 18), none, false⟩])
   .ret)
   .skip)))
  (.seq (.seq (.reg [⟨some 19, .move (.tmp 0), none, false⟩,
   ⟨some 20, .indexAddr t_api_Val (.tmp 19) (.const (.int .i64 0)), none, false⟩,
   ⟨some 21, .fieldAddr t_api_Node (.tmp 20) 0, none, false⟩,
   ⟨some 22, .load t_int (.tmp 21), none, false⟩])
  (.block 0 (.seq (.reg [⟨some 24, .binOp .eql t_int (.tmp 22) (.const (.int .i64 3)) t_int, none, false⟩,
    ⟨some 23, .assign (.tmp 24), none, false⟩])
   (.cond (.tmp 23)
    (.seq (.draw [⟨some 25, .move (.tmp 0), none, false⟩,
     ⟨some 26, .indexAddr t_api_Val (.tmp 25) (.const (.int .i64 0)), none, false⟩,
     ⟨some 27, .load t_api_Node (.tmp 26), none, false⟩,
     ⟨some 28, .move (.tmp 1), none, false⟩,
     ⟨some 29, .indexAddr t_api_Val (.tmp 28) (.const (.int .i64 0)), none, false⟩,
     ⟨some 30, .load t_api_Node (.tmp 29), none, false⟩,
     ⟨some 31, .call ⟨.value (.func f_num_Cmp), ⟨[(.tmp 27), (.tmp 30)]⟩, ⟨[t_api_Node, t_api_Node]⟩⟩, none, false⟩,
     ⟨some 4, .assign (.tmp 31), none, false⟩]
    [0, 0, 0, 7, 7, 7, 0, 0])
    .ret)
    (.seq (.reg [⟨some 33, .binOp .eql t_int (.tmp 22) (.const (.int .i64 4)) t_int, none, false⟩,
     ⟨some 32, .assign (.tmp 33), none, false⟩])
    (.cond (.tmp 32)
     (.seq (.draw [⟨some 34, .move (.tmp 0), none, false⟩,
      ⟨some 35, .indexAddr t_api_Val (.tmp 34) (.const (.int .i64 0)), none, false⟩,
      ⟨some 36, .fieldAddr t_api_Node (.tmp 35) 3, none, false⟩,
      ⟨some 37, .load t_string (.tmp 36), none, false⟩,
      ⟨some 38, .move (.tmp 1), none, false⟩,
      ⟨some 39, .indexAddr t_api_Val (.tmp 38) (.const (.int .i64 0)), none, false⟩,
      ⟨some 40, .fieldAddr t_api_Node (.tmp 39) 3, none, false⟩,
      ⟨some 41, .load t_string (.tmp 40), none, false⟩,
      ⟨some 42, .call ⟨.value (.func f_cmp_Compare_string_), ⟨[(.tmp 37), (.tmp 41)]⟩, ⟨[t_string, t_string]⟩⟩, none, false⟩,
      ⟨some 4, .assign (.tmp 42), none, false⟩]
     [0, 0, 0, 0, 15, 15, 15, 15, 0, 0])
     .ret)
     (.seq (.reg [⟨some 44, .binOp .eql t_int (.tmp 22) (.const (.int .i64 6)) t_int, none, false⟩,
      ⟨some 43, .assign (.tmp 44), none, false⟩])
     (.cond (.tmp 43)
      (.seq (.reg [⟨some 45, .move (.tmp 0), none, false⟩,
       ⟨some 46, .call ⟨.value (.func f_val_Names), ⟨[(.tmp 45)]⟩, ⟨[t_api_Val]⟩⟩, none, false⟩,
       ⟨some 47, .move (.tmp 1), none, false⟩,
       ⟨some 48, .call ⟨.value (.func f_val_Names), ⟨[(.tmp 47)]⟩, ⟨[t_api_Val]⟩⟩, none, false⟩,
       ⟨some 49, .call ⟨.value (.func f_slices_Compare_L_string_string_), ⟨[(.tmp 46), (.tmp 48)]⟩, ⟨[t_L_string, t_L_string]⟩⟩, none, false⟩,
       ⟨some 6, .assign (.tmp 49), none, false⟩])
      (.seq (.reg [⟨some 50, .move (.tmp 6), none, false⟩,
       ⟨some 51, .binOp .neq t_int (.tmp 50) (.const (.int .i64 0)) t_int, none, false⟩])
      (.cond (.tmp 51)
       (.seq (.reg [⟨some 52, .move (.tmp 6), none, false⟩,
        ⟨some 4, .assign (.tmp 52), none, false⟩])
       .ret)
       .skip)))
      (.seq (.reg [⟨some 54, .binOp .eql t_int (.tmp 22) (.const (.int .i64 5)) t_int, none, false⟩,
       ⟨some 53, .assign (.tmp 54), none, false⟩])
      (.cond (.tmp 53)
       .skip
       (.seq (.reg [⟨some 4, .assign (.const (.int .i64 0)), none, false⟩])
       .ret)))))))))))
  (.seq (.reg [⟨some 55, .move (.tmp 0), none, false⟩,
   ⟨some 56, .call ⟨.value (.func f_val_Parts), ⟨[(.tmp 55)]⟩, ⟨[t_api_Val]⟩⟩, none, false⟩,
   ⟨some 57, .move (.tmp 1), none, false⟩,
   ⟨some 58, .call ⟨.value (.func f_val_Parts), ⟨[(.tmp 57)]⟩, ⟨[t_api_Val]⟩⟩, none, false⟩,
   ⟨some 59, .call ⟨.value (.func f_slices_CompareFunc_L_api_Val_L_api_Val_api_Val_api_Val_), ⟨[(.tmp 56), (.tmp 58), (.func f_order_Cmp)]⟩, ⟨[t_L_api_Val, t_L_api_Val, t_func_api_Val__api_Val__int]⟩⟩, none, false⟩,
   ⟨some 4, .assign (.tmp 59), none, false⟩])
  .ret))))
theorem k_order_Cmp : FnOk Try.prog f_order_Cmp 60 [.tmp 4] c_order_Cmp := ⟨_, _, Try.func19, by kernel_rfl, rfl, Try.ntmps19, rfl, by kernel_rfl⟩

def c_louperef05_Cmp : LC :=
  (.seq (.reg [⟨some 4, .assign (.const (.int .i64 0)), none, false⟩])
  (.seq (.draw [⟨some 10, .move (.tmp 0), none, false⟩,
   ⟨some 11, .indexAddr t_api_Val (.tmp 10) (.const (.int .i64 0)), none, false⟩,
   ⟨some 12, .fieldAddr t_api_Node (.tmp 11) 0, none, false⟩,
   ⟨some 13, .load t_int (.tmp 12), none, false⟩,
   ⟨some 14, .move (.tmp 1), none, false⟩,
   ⟨some 15, .indexAddr t_api_Val (.tmp 14) (.const (.int .i64 0)), none, false⟩,
   ⟨some 16, .fieldAddr t_api_Node (.tmp 15) 0, none, false⟩,
   ⟨some 17, .load t_int (.tmp 16), none, false⟩,
   ⟨some 5, .assign (.tmp 13), none, false⟩,
   ⟨some 6, .assign (.tmp 17), none, false⟩]
  [0, 0, 0, 0, 15, 15, 15, 15, 240, 0])
  (.seq (.seq (.reg [⟨some 18, .move (.tmp 5), none, false⟩,
   ⟨some 19, .move (.tmp 6), none, false⟩,
   ⟨some 20, .binOp .neq t_int (.tmp 18) (.tmp 19) t_int, none, false⟩])
  (.cond (.tmp 20)
   (.seq (.reg [⟨some 21, .move (.tmp 5), none, false⟩,
    ⟨some 22, .move (.tmp 6), none, false⟩,
    ⟨some 23, .binOp .lss t_int (.tmp 21) (.tmp 22) t_int, none, false⟩,
    ⟨some 24, .call ⟨.value (.func f_louperef05_sign), ⟨[(.tmp 23), (.const (.bool false))]⟩, ⟨[t_bool, t_bool]⟩⟩, none, false⟩,
    ⟨some 4, .assign (.tmp 24), none, false⟩])
   .ret)
   .skip))
  (.seq (.seq (.reg [⟨some 25, .move (.tmp 5), none, false⟩])
  (.block 0 (.seq (.reg [⟨some 27, .binOp .eql t_int (.tmp 25) (.const (.int .i64 3)) t_int, none, false⟩,
    ⟨some 26, .assign (.tmp 27), none, false⟩])
   (.cond (.tmp 26)
    (.seq (.draw [⟨some 28, .move (.tmp 0), none, false⟩,
     ⟨some 29, .indexAddr t_api_Val (.tmp 28) (.const (.int .i64 0)), none, false⟩,
     ⟨some 30, .load t_api_Node (.tmp 29), none, false⟩,
     ⟨some 31, .move (.tmp 1), none, false⟩,
     ⟨some 32, .indexAddr t_api_Val (.tmp 31) (.const (.int .i64 0)), none, false⟩,
     ⟨some 33, .load t_api_Node (.tmp 32), none, false⟩,
     ⟨some 7, .alloc t_api_Node, none, false⟩,
     ⟨some 8, .alloc t_api_Node, none, false⟩,
     ⟨none, .store t_api_Node (.tmp 7) (.tmp 30), none, false⟩,
     ⟨none, .store t_api_Node (.tmp 8) (.tmp 33), none, false⟩]
    [0, 0, 0, 7, 7, 7, 63, 127, 56, 0])
    (.seq (.reg [⟨some 34, .fieldAddr t_api_Node (.tmp 7) 2, none, false⟩,
     ⟨none, .store t_string (.tmp 34) (.const (.string ⟨⟨[]⟩⟩)), none, false⟩])
    (.seq (.reg [⟨some 35, .fieldAddr t_api_Node (.tmp 8) 2, none, false⟩,
     ⟨none, .store t_string (.tmp 35) (.const (.string ⟨⟨[]⟩⟩)), none, false⟩])
    (.seq (.reg [⟨some 36, .load t_api_Node (.tmp 7), none, false⟩,
     ⟨some 37, .load t_api_Node (.tmp 8), none, false⟩,
     ⟨some 38, .call ⟨.value (.func f_louperef01_Cmp), ⟨[(.tmp 36), (.tmp 37)]⟩, ⟨[t_api_Node, t_api_Node]⟩⟩, none, false⟩,
     ⟨some 4, .assign (.tmp 38), none, false⟩])
    .ret))))
    (.seq (.reg [⟨some 40, .binOp .eql t_int (.tmp 25) (.const (.int .i64 4)) t_int, none, false⟩,
     ⟨some 39, .assign (.tmp 40), none, false⟩])
    (.cond (.tmp 39)
     (.seq (.draw [⟨some 41, .move (.tmp 0), none, false⟩,
      ⟨some 42, .indexAddr t_api_Val (.tmp 41) (.const (.int .i64 0)), none, false⟩,
      ⟨some 43, .fieldAddr t_api_Node (.tmp 42) 3, none, false⟩,
      ⟨some 44, .load t_string (.tmp 43), none, false⟩,
      ⟨some 45, .move (.tmp 1), none, false⟩,
      ⟨some 46, .indexAddr t_api_Val (.tmp 45) (.const (.int .i64 0)), none, false⟩,
      ⟨some 47, .fieldAddr t_api_Node (.tmp 46) 3, none, false⟩,
      ⟨some 48, .load t_string (.tmp 47), none, false⟩,
      ⟨some 49, .binOp .lss t_string (.tmp 44) (.tmp 48) t_string, none, false⟩,
      ⟨some 50, .move (.tmp 0), none, false⟩,
      ⟨some 51, .indexAddr t_api_Val (.tmp 50) (.const (.int .i64 0)), none, false⟩,
      ⟨some 52, .fieldAddr t_api_Node (.tmp 51) 3, none, false⟩,
      ⟨some 53, .load t_string (.tmp 52), none, false⟩,
      ⟨some 54, .move (.tmp 1), none, false⟩,
      ⟨some 55, .indexAddr t_api_Val (.tmp 54) (.const (.int .i64 0)), none, false⟩,
      ⟨some 56, .fieldAddr t_api_Node (.tmp 55) 3, none, false⟩,
      ⟨some 57, .load t_string (.tmp 56), none, false⟩,
      ⟨some 58, .binOp .eql t_string (.tmp 53) (.tmp 57) t_string, none, false⟩,
      ⟨some 59, .call ⟨.value (.func f_louperef05_sign), ⟨[(.tmp 49), (.tmp 58)]⟩, ⟨[t_bool, t_bool]⟩⟩, none, false⟩,
      ⟨some 4, .assign (.tmp 59), none, false⟩]
     [0, 0, 0, 0, 15, 15, 15, 15, 0, 511, 511, 511, 511, 8191, 8191, 8191, 8191, 511, 0, 0])
     .ret)
     (.seq (.reg [⟨some 61, .binOp .eql t_int (.tmp 25) (.const (.int .i64 5)) t_int, none, false⟩,
      ⟨some 60, .assign (.tmp 61), none, false⟩])
     (.cond (.tmp 60)
      (.seq (.reg [⟨some 62, .move (.tmp 0), none, false⟩,
       ⟨some 63, .call ⟨.value (.func f_louperef02_Parts), ⟨[(.tmp 62)]⟩, ⟨[t_api_Val]⟩⟩, none, false⟩,
       ⟨some 64, .move (.tmp 1), none, false⟩,
       ⟨some 65, .call ⟨.value (.func f_louperef02_Parts), ⟨[(.tmp 64)]⟩, ⟨[t_api_Val]⟩⟩, none, false⟩,
       ⟨some 66, .call ⟨.value (.func f_louperef05_rows), ⟨[(.tmp 63), (.tmp 65)]⟩, ⟨[t_L_api_Val, t_L_api_Val]⟩⟩, none, false⟩,
       ⟨some 4, .assign (.tmp 66), none, false⟩])
      .ret)
      (.seq (.reg [⟨some 68, .binOp .eql t_int (.tmp 25) (.const (.int .i64 6)) t_int, none, false⟩,
       ⟨some 67, .assign (.tmp 68), none, false⟩])
      (.cond (.tmp 67)
       (.seq (.reg [⟨some 69, .move (.tmp 0), none, false⟩,
        ⟨some 70, .call ⟨.value (.func f_louperef02_Names), ⟨[(.tmp 69)]⟩, ⟨[t_api_Val]⟩⟩, none, false⟩,
        ⟨some 71, .move (.tmp 1), none, false⟩,
        ⟨some 72, .call ⟨.value (.func f_louperef02_Names), ⟨[(.tmp 71)]⟩, ⟨[t_api_Val]⟩⟩, none, false⟩,
        ⟨some 73, .call ⟨.value (.func f_louperef05_names), ⟨[(.tmp 70), (.tmp 72)]⟩, ⟨[t_L_string, t_L_string]⟩⟩, none, false⟩,
        ⟨some 9, .assign (.tmp 73), none, false⟩])
       (.seq (.seq (.reg [⟨some 74, .move (.tmp 9), none, false⟩,
        ⟨some 75, .binOp .neq t_int (.tmp 74) (.const (.int .i64 0)) t_int, none, false⟩])
       (.cond (.tmp 75)
        (.seq (.reg [⟨some 76, .move (.tmp 9), none, false⟩,
         ⟨some 4, .assign (.tmp 76), none, false⟩])
        .ret)
        .skip))
       (.seq (.reg [⟨some 77, .move (.tmp 0), none, false⟩,
        ⟨some 78, .call ⟨.value (.func f_louperef02_Parts), ⟨[(.tmp 77)]⟩, ⟨[t_api_Val]⟩⟩, none, false⟩,
        ⟨some 79, .move (.tmp 1), none, false⟩,
        ⟨some 80, .call ⟨.value (.func f_louperef02_Parts), ⟨[(.tmp 79)]⟩, ⟨[t_api_Val]⟩⟩, none, false⟩,
        ⟨some 81, .call ⟨.value (.func f_louperef05_rows), ⟨[(.tmp 78), (.tmp 80)]⟩, ⟨[t_L_api_Val, t_L_api_Val]⟩⟩, none, false⟩,
        ⟨some 4, .assign (.tmp 81), none, false⟩])
       .ret)))
       .skip))))))))))
  (.seq (.reg [⟨some 4, .assign (.const (.int .i64 0)), none, false⟩])
  .ret)))))
theorem k_louperef05_Cmp : FnOk Try.prog f_louperef05_Cmp 82 [.tmp 4] c_louperef05_Cmp := ⟨_, _, Try.func20, by kernel_rfl, rfl, Try.ntmps20, rfl, by kernel_rfl⟩

def c_order_Rises : LC :=
  (.seq (.reg [⟨some 2, .assign (.const (.bool false)), none, false⟩])
  (.seq (.reg [⟨some 3, .move (.tmp 0), none, false⟩,
   ⟨some 4, .call ⟨.value (.func f_slices_IsSortedFunc_L_api_Val_api_Val_), ⟨[(.tmp 3), (.func f_order_Cmp)]⟩, ⟨[t_L_api_Val, t_func_api_Val__api_Val__int]⟩⟩, none, false⟩,
   ⟨some 2, .assign (.tmp 4), none, false⟩])
  .ret))
theorem k_order_Rises : FnOk Try.prog f_order_Rises 5 [.tmp 2] c_order_Rises := ⟨_, _, Try.func21, by kernel_rfl, rfl, Try.ntmps21, rfl, by kernel_rfl⟩

def c_louperef05_Rises : LC :=
  (.seq (.reg [⟨some 2, .assign (.const (.bool false)), none, false⟩])
  (.seq (.seq (.reg [⟨some 3, .assign (.const (.int .i64 1)), none, false⟩])
  (.block 0 (.loop [true, false, false, true, false, false, false, false, false, false, false, false, false, false, false, false, false, false, false, false, false] none
   (.seq (.seq (.reg [⟨some 4, .move (.tmp 3), none, false⟩,
     ⟨some 5, .move (.tmp 0), none, false⟩,
     ⟨some 6, .call ⟨.builtin .len, ⟨[(.tmp 5)]⟩, ⟨[t_L_api_Val]⟩⟩, none, false⟩,
     ⟨some 7, .binOp .lss t_int (.tmp 4) (.tmp 6) t_int, none, false⟩])
    (.cond (.tmp 7)
     .skip
     (.exit 0)))
    (.seq (.block 1 (.seq (.draw [⟨some 10, .move (.tmp 0), none, false⟩,
      ⟨some 11, .move (.tmp 3), none, false⟩,
      ⟨some 12, .indexAddr t_L_api_Val (.tmp 10) (.tmp 11), none, false⟩,
      ⟨some 13, .load t_api_Val (.tmp 12), none, false⟩,
      ⟨some 14, .move (.tmp 0), none, false⟩,
      ⟨some 15, .move (.tmp 3), none, false⟩,
      ⟨some 16, .binOp .sub t_int (.tmp 15) (.const (.int .i64 1)) t_int, none, false⟩,
      ⟨some 17, .indexAddr t_L_api_Val (.tmp 14) (.tmp 16), none, false⟩,
      ⟨some 18, .load t_api_Val (.tmp 17), none, false⟩,
      ⟨some 19, .call ⟨.value (.func f_louperef05_Cmp), ⟨[(.tmp 13), (.tmp 18)]⟩, ⟨[t_api_Val, t_api_Val]⟩⟩, none, false⟩,
      ⟨some 20, .binOp .lss t_int (.tmp 19) (.const (.int .i64 0)) t_int, none, false⟩]
     [0, 1, 0, 0, 15, 31, 31, 15, 15, 0, 0])
     (.cond (.tmp 20)
      (.seq (.reg [⟨some 2, .assign (.const (.bool false)), none, false⟩])
      .ret)
      .skip)))
    (.reg [⟨some 8, .move (.tmp 3), none, false⟩,
     ⟨some 9, .binOp .add t_int (.tmp 8) (.const (.int .i64 1)) t_int, none, false⟩,
     ⟨some 3, .assign (.tmp 9), none, false⟩]))))))
  (.seq (.reg [⟨some 2, .assign (.const (.bool true)), none, false⟩])
  .ret)))
theorem k_louperef05_Rises : FnOk Try.prog f_louperef05_Rises 21 [.tmp 2] c_louperef05_Rises := ⟨_, _, Try.func22, by kernel_rfl, rfl, Try.ntmps22, rfl, by kernel_rfl⟩

def c_louperef05_Ints : LC :=
  (.seq (.reg [⟨some 4, .assign (.const (.bool false)), none, false⟩])
  (.seq (.seq (.reg [⟨some 6, .move (.tmp 0), none, false⟩,
   ⟨some 7, .call ⟨.builtin .len, ⟨[(.tmp 6)]⟩, ⟨[t_L_int]⟩⟩, none, false⟩,
   ⟨some 8, .move (.tmp 1), none, false⟩,
   ⟨some 9, .call ⟨.builtin .len, ⟨[(.tmp 8)]⟩, ⟨[t_L_int]⟩⟩, none, false⟩,
   ⟨some 10, .binOp .neq t_int (.tmp 7) (.tmp 9) t_int, none, false⟩])
  (.cond (.tmp 10)
   (.seq (.reg [⟨some 4, .assign (.const (.bool false)), none, false⟩])
   .ret)
   .skip))
  (.seq (.seq (.reg [⟨some 5, .assign (.const (.int .i64 0)), none, false⟩])
  (.block 0 (.loop [true, true, false, false, false, true, false, false, false, false, false, false, false, false, false, false, false, false, false, false, false, false, false, false, false, false] none
   (.seq (.seq (.reg [⟨some 11, .move (.tmp 5), none, false⟩,
     ⟨some 12, .move (.tmp 0), none, false⟩,
     ⟨some 13, .call ⟨.builtin .len, ⟨[(.tmp 12)]⟩, ⟨[t_L_int]⟩⟩, none, false⟩,
     ⟨some 14, .binOp .lss t_int (.tmp 11) (.tmp 13) t_int, none, false⟩])
    (.cond (.tmp 14)
     .skip
     (.exit 0)))
    (.seq (.block 1 (.seq (.draw [⟨some 17, .move (.tmp 0), none, false⟩,
      ⟨some 18, .move (.tmp 5), none, false⟩,
      ⟨some 19, .indexAddr t_L_int (.tmp 17) (.tmp 18), none, false⟩,
      ⟨some 20, .load t_int (.tmp 19), none, false⟩,
      ⟨some 21, .move (.tmp 1), none, false⟩,
      ⟨some 22, .move (.tmp 5), none, false⟩,
      ⟨some 23, .indexAddr t_L_int (.tmp 21) (.tmp 22), none, false⟩,
      ⟨some 24, .load t_int (.tmp 23), none, false⟩,
      ⟨some 25, .binOp .neq t_int (.tmp 20) (.tmp 24) t_int, none, false⟩]
     [0, 1, 0, 0, 15, 31, 15, 15, 0])
     (.cond (.tmp 25)
      (.seq (.reg [⟨some 4, .assign (.const (.bool false)), none, false⟩])
      .ret)
      .skip)))
    (.reg [⟨some 15, .move (.tmp 5), none, false⟩,
     ⟨some 16, .binOp .add t_int (.tmp 15) (.const (.int .i64 1)) t_int, none, false⟩,
     ⟨some 5, .assign (.tmp 16), none, false⟩]))))))
  (.seq (.reg [⟨some 4, .assign (.const (.bool true)), none, false⟩])
  .ret))))
theorem k_louperef05_Ints : FnOk Try.prog f_louperef05_Ints 26 [.tmp 4] c_louperef05_Ints := ⟨_, _, Try.func23, by kernel_rfl, rfl, Try.ntmps23, rfl, by kernel_rfl⟩

def c_order_Sort : LC :=
  (.seq (.reg [⟨some 1, .box t_L_api_Val (.tmp 0), none, false⟩,
   ⟨some 2, .assign (.const (.slice none 0 0)), none, false⟩])
  (.seq (.reg [⟨some 5, .load t_L_api_Val (.tmp 1), none, false⟩,
   ⟨some 6, .call ⟨.builtin .len, ⟨[(.tmp 5)]⟩, ⟨[t_L_api_Val]⟩⟩, none, false⟩,
   ⟨some 7, .makeSlice t_L_int (.tmp 6) (.tmp 6), none, false⟩,
   ⟨some 3, .assign (.tmp 7), none, false⟩])
  (.seq (.seq (.reg [⟨some 8, .move (.tmp 3), none, false⟩,
   ⟨some 9, .call ⟨.builtin .len, ⟨[(.tmp 8)]⟩, ⟨[t_L_int]⟩⟩, none, false⟩,
   ⟨some 10, .move (.const (.int .i64 0)), none, false⟩])
  (.block 0 (.loop [false, true, false, true, false, false, false, false, false, true, true, false, false, false, false, false, false, false, false, false, false] none
   (.seq (.reg [⟨some 11, .binOp .lss t_int (.tmp 10) (.tmp 9) t_int, none, false⟩])
    (.seq (.cond (.tmp 11)
     .skip
     (.exit 0))
    (.seq (.block 1 (.seq (.reg [⟨some 12, .move (.tmp 10), none, false⟩,
      ⟨some 4, .assign (.tmp 12), none, false⟩])
     (.reg [⟨some 13, .move (.tmp 3), none, false⟩,
      ⟨some 14, .move (.tmp 4), none, false⟩,
      ⟨some 15, .move (.tmp 4), none, false⟩,
      ⟨some 16, .indexAddr t_L_int (.tmp 13) (.tmp 14), none, false⟩,
      ⟨none, .store t_int (.tmp 16) (.tmp 15), none, false⟩])))
    (.reg [⟨some 17, .binOp .add t_int (.tmp 10) (.const (.int .i64 1)) t_int, none, false⟩,
     ⟨some 10, .move (.tmp 17), none, false⟩])))))))
  (.seq (.weak (.reg [⟨some 18, .move (.tmp 3), none, false⟩,
   ⟨some 19, .makeFunc (.func f_order_Sort_1) ⟨[]⟩ ⟨[(.tmp 1)]⟩, none, false⟩,
   ⟨some 20, .call ⟨.value (.func f_order_sorted_int_), ⟨[(.tmp 18), (.tmp 19)]⟩, ⟨[t_L_int, t_func_int__int__bool]⟩⟩, none, false⟩,
   ⟨some 2, .assign (.tmp 20), none, false⟩]))
  .ret))))
theorem k_order_Sort : FnOk Try.prog f_order_Sort 21 [.tmp 2] c_order_Sort := ⟨_, _, Try.func24, by kernel_rfl, rfl, Try.ntmps24, rfl, by kernel_rfl⟩

def c_louperef02_Same : LC :=
  (.seq (.reg [⟨some 4, .assign (.const (.bool false)), none, false⟩])
  (.seq (.seq (.reg [⟨some 6, .move (.tmp 0), none, false⟩,
   ⟨some 7, .call ⟨.builtin .len, ⟨[(.tmp 6)]⟩, ⟨[t_api_Val]⟩⟩, none, false⟩,
   ⟨some 8, .move (.tmp 1), none, false⟩,
   ⟨some 9, .call ⟨.builtin .len, ⟨[(.tmp 8)]⟩, ⟨[t_api_Val]⟩⟩, none, false⟩,
   ⟨some 10, .binOp .neq t_int (.tmp 7) (.tmp 9) t_int, none, false⟩])
  (.cond (.tmp 10)
   (.seq (.reg [⟨some 4, .assign (.const (.bool false)), none, false⟩])
   .ret)
   .skip))
  (.seq (.seq (.reg [⟨some 5, .assign (.const (.int .i64 0)), none, false⟩])
  (.block 0 (.loop [true, true, false, false, false, true, false, false, false, false, false, false, false, false, false, false, false, false, false, false, false, false, false, false, false, false] none
   (.seq (.seq (.reg [⟨some 11, .move (.tmp 5), none, false⟩,
     ⟨some 12, .move (.tmp 0), none, false⟩,
     ⟨some 13, .call ⟨.builtin .len, ⟨[(.tmp 12)]⟩, ⟨[t_api_Val]⟩⟩, none, false⟩,
     ⟨some 14, .binOp .lss t_int (.tmp 11) (.tmp 13) t_int, none, false⟩])
    (.cond (.tmp 14)
     .skip
     (.exit 0)))
    (.seq (.block 1 (.seq (.draw [⟨some 17, .move (.tmp 0), none, false⟩,
      ⟨some 18, .move (.tmp 5), none, false⟩,
      ⟨some 19, .indexAddr t_api_Val (.tmp 17) (.tmp 18), none, false⟩,
      ⟨some 20, .load t_api_Node (.tmp 19), none, false⟩,
      ⟨some 21, .move (.tmp 1), none, false⟩,
      ⟨some 22, .move (.tmp 5), none, false⟩,
      ⟨some 23, .indexAddr t_api_Val (.tmp 21) (.tmp 22), none, false⟩,
      ⟨some 24, .load t_api_Node (.tmp 23), none, false⟩,
      ⟨some 25, .binOp .neq t_api_Node (.tmp 20) (.tmp 24) t_api_Node, none, false⟩]
     [0, 1, 0, 0, 15, 31, 15, 15, 0])
     (.cond (.tmp 25)
      (.seq (.reg [⟨some 4, .assign (.const (.bool false)), none, false⟩])
      .ret)
      .skip)))
    (.reg [⟨some 15, .move (.tmp 5), none, false⟩,
     ⟨some 16, .binOp .add t_int (.tmp 15) (.const (.int .i64 1)) t_int, none, false⟩,
     ⟨some 5, .assign (.tmp 16), none, false⟩]))))))
  (.seq (.reg [⟨some 4, .assign (.const (.bool true)), none, false⟩])
  .ret))))
theorem k_louperef02_Same : FnOk Try.prog f_louperef02_Same 26 [.tmp 4] c_louperef02_Same := ⟨_, _, Try.func28, by kernel_rfl, rfl, Try.ntmps28, rfl, by kernel_rfl⟩

def c_louperef02_Utf : LC :=
  (.seq (.reg [⟨some 2, .assign (.const (.bool false)), none, false⟩])
  (.seq (.reg [⟨some 3, .assign (.const (.int .i64 0)), none, false⟩])
  (.seq (.block 0 (.loop [true, false, false, true, false, false, false, false, false, false, false, false, false, false, false, false, false] none
   (.seq (.seq (.reg [⟨some 5, .move (.tmp 3), none, false⟩,
     ⟨some 6, .move (.tmp 0), none, false⟩,
     ⟨some 7, .call ⟨.builtin .len, ⟨[(.tmp 6)]⟩, ⟨[t_string]⟩⟩, none, false⟩,
     ⟨some 8, .binOp .lss t_int (.tmp 5) (.tmp 7) t_int, none, false⟩])
    (.cond (.tmp 8)
     .skip
     (.exit 0)))
    (.block 1 (.seq (.reg [⟨some 9, .move (.tmp 0), none, false⟩,
      ⟨some 10, .move (.tmp 3), none, false⟩,
      ⟨some 11, .call ⟨.value (.func f_louperef02_Rune), ⟨[(.tmp 9), (.tmp 10)]⟩, ⟨[t_string, t_int]⟩⟩, none, false⟩,
      ⟨some 4, .assign (.tmp 11), none, false⟩])
     (.seq (.seq (.reg [⟨some 12, .move (.tmp 4), none, false⟩,
      ⟨some 13, .binOp .eql t_int (.tmp 12) (.const (.int .i64 0)) t_int, none, false⟩])
     (.cond (.tmp 13)
      (.seq (.reg [⟨some 2, .assign (.const (.bool false)), none, false⟩])
      .ret)
      .skip))
     (.reg [⟨some 14, .move (.tmp 3), none, false⟩,
      ⟨some 15, .move (.tmp 4), none, false⟩,
      ⟨some 16, .binOp .add t_int (.tmp 14) (.tmp 15) t_int, none, false⟩,
      ⟨some 3, .assign (.tmp 16), none, false⟩])))))))
  (.seq (.reg [⟨some 2, .assign (.const (.bool true)), none, false⟩])
  .ret))))
theorem k_louperef02_Utf : FnOk Try.prog f_louperef02_Utf 17 [.tmp 2] c_louperef02_Utf := ⟨_, _, Try.func30, by kernel_rfl, rfl, Try.ntmps30, rfl, by kernel_rfl⟩

def c_louperef02_Right : LC :=
  (.seq (.reg [⟨some 2, .assign (.const (.bool false)), none, false⟩])
  (.seq (.seq (.reg [⟨some 4, .move (.tmp 0), none, false⟩,
   ⟨some 5, .call ⟨.builtin .len, ⟨[(.tmp 4)]⟩, ⟨[t_api_Val]⟩⟩, none, false⟩,
   ⟨some 6, .binOp .eql t_int (.tmp 5) (.const (.int .i64 0)) t_int, none, false⟩,
   ⟨some 7, .move (.tmp 6), none, false⟩,
   ⟨some 8, .move (.tmp 0), some (some 7, false), false⟩,
   ⟨some 9, .indexAddr t_api_Val (.tmp 8) (.const (.int .i64 0)), some (some 7, false), false⟩,
   ⟨some 10, .fieldAddr t_api_Node (.tmp 9) 2, some (some 7, false), false⟩,
   ⟨some 11, .load t_string (.tmp 10), some (some 7, false), false⟩,
   ⟨some 12, .binOp .neq t_string (.tmp 11) (.const (.string ⟨⟨[]⟩⟩)) t_string, some (some 7, false), false⟩,
   ⟨some 13, .pick (.tmp 7) (.const (.bool true)) (.tmp 12), none, false⟩,
   ⟨some 14, .move (.tmp 13), none, false⟩,
   ⟨some 15, .move (.tmp 0), some (some 14, false), false⟩,
   ⟨some 16, .call ⟨.value (.func f_louperef02_Next), ⟨[(.tmp 15), (.const (.int .i64 0))]⟩, ⟨[t_api_Val, t_int]⟩⟩, some (some 14, false), false⟩,
   ⟨some 17, .move (.tmp 0), some (some 14, false), false⟩,
   ⟨some 18, .call ⟨.builtin .len, ⟨[(.tmp 17)]⟩, ⟨[t_api_Val]⟩⟩, some (some 14, false), false⟩,
   ⟨some 19, .binOp .neq t_int (.tmp 16) (.tmp 18) t_int, some (some 14, false), false⟩,
   ⟨some 20, .pick (.tmp 14) (.const (.bool true)) (.tmp 19), none, false⟩])
  (.cond (.tmp 20)
   (.seq (.reg [⟨some 2, .assign (.const (.bool false)), none, false⟩])
   .ret)
   .skip))
  (.seq (.seq (.reg [⟨some 3, .assign (.const (.int .i64 0)), none, false⟩])
  (.block 0 (.loop [true, false, false, true, false, false, false, false, false, false, false, false, false, false, false, false, false, false, false, false, false, false, false, false, false, false, false, false, false, false, false, false, false, false, false, false, false, false, false] none
   (.seq (.seq (.reg [⟨some 21, .move (.tmp 3), none, false⟩,
     ⟨some 22, .move (.tmp 0), none, false⟩,
     ⟨some 23, .call ⟨.builtin .len, ⟨[(.tmp 22)]⟩, ⟨[t_api_Val]⟩⟩, none, false⟩,
     ⟨some 24, .binOp .lss t_int (.tmp 21) (.tmp 23) t_int, none, false⟩])
    (.cond (.tmp 24)
     .skip
     (.exit 0)))
    (.seq (.block 1 (.seq (.reg [⟨some 27, .move (.tmp 0), none, false⟩,
      ⟨some 28, .move (.tmp 3), none, false⟩,
      ⟨some 29, .indexAddr t_api_Val (.tmp 27) (.tmp 28), none, false⟩,
      ⟨some 30, .load t_api_Node (.tmp 29), none, false⟩,
      ⟨some 31, .call ⟨.value (.func f_louperef02_plain), ⟨[(.tmp 30)]⟩, ⟨[t_api_Node]⟩⟩, none, false⟩,
      ⟨some 32, .unOp .not t_bool (.tmp 31), none, false⟩,
      ⟨some 33, .move (.tmp 32), none, false⟩,
      ⟨some 34, .move (.tmp 0), some (some 33, false), false⟩,
      ⟨some 35, .move (.tmp 3), some (some 33, false), false⟩,
      ⟨some 36, .call ⟨.value (.func f_louperef02_rising), ⟨[(.tmp 34), (.tmp 35)]⟩, ⟨[t_api_Val, t_int]⟩⟩, some (some 33, false), false⟩,
      ⟨some 37, .unOp .not t_bool (.tmp 36), some (some 33, false), false⟩,
      ⟨some 38, .pick (.tmp 33) (.const (.bool true)) (.tmp 37), none, false⟩])
     (.cond (.tmp 38)
      (.seq (.reg [⟨some 2, .assign (.const (.bool false)), none, false⟩])
      .ret)
      .skip)))
    (.reg [⟨some 25, .move (.tmp 3), none, false⟩,
     ⟨some 26, .binOp .add t_int (.tmp 25) (.const (.int .i64 1)) t_int, none, false⟩,
     ⟨some 3, .assign (.tmp 26), none, false⟩]))))))
  (.seq (.reg [⟨some 2, .assign (.const (.bool true)), none, false⟩])
  .ret))))
theorem k_louperef02_Right : FnOk Try.prog f_louperef02_Right 39 [.tmp 2] c_louperef02_Right := ⟨_, _, Try.func51, by kernel_rfl, rfl, Try.ntmps51, rfl, by kernel_rfl⟩

def c_cmp_Compare_int_ : LC :=
  (.seq (.reg [⟨some 4, .assign (.const (.int .i64 0)), none, false⟩])
  (.seq (.reg [⟨some 7, .move (.tmp 0), none, false⟩,
   ⟨some 8, .call ⟨.value (.func f_cmp_isNaN_int_), ⟨[(.tmp 7)]⟩, ⟨[t_int]⟩⟩, none, false⟩,
   ⟨some 5, .assign (.tmp 8), none, false⟩])
  (.seq (.reg [⟨some 9, .move (.tmp 1), none, false⟩,
   ⟨some 10, .call ⟨.value (.func f_cmp_isNaN_int_), ⟨[(.tmp 9)]⟩, ⟨[t_int]⟩⟩, none, false⟩,
   ⟨some 6, .assign (.tmp 10), none, false⟩])
  (.seq (.seq (.reg [⟨some 11, .move (.tmp 5), none, false⟩])
  (.cond (.tmp 11)
   (.seq (.seq (.reg [⟨some 12, .move (.tmp 6), none, false⟩])
   (.cond (.tmp 12)
    (.seq (.reg [⟨some 4, .assign (.const (.int .i64 0)), none, false⟩])
    .ret)
    .skip))
   (.seq (.reg [⟨some 4, .assign (.const (.int .i64 (-1))), none, false⟩])
   .ret))
   .skip))
  (.seq (.seq (.reg [⟨some 13, .move (.tmp 6), none, false⟩])
  (.cond (.tmp 13)
   (.seq (.reg [⟨some 4, .assign (.const (.int .i64 1)), none, false⟩])
   .ret)
   .skip))
  (.seq (.seq (.reg [⟨some 14, .move (.tmp 0), none, false⟩,
   ⟨some 15, .move (.tmp 1), none, false⟩,
   ⟨some 16, .binOp .lss t_int (.tmp 14) (.tmp 15) t_int, none, false⟩])
  (.cond (.tmp 16)
   (.seq (.reg [⟨some 4, .assign (.const (.int .i64 (-1))), none, false⟩])
   .ret)
   .skip))
  (.seq (.seq (.reg [⟨some 17, .move (.tmp 0), none, false⟩,
   ⟨some 18, .move (.tmp 1), none, false⟩,
   ⟨some 19, .binOp .gtr t_int (.tmp 17) (.tmp 18) t_int, none, false⟩])
  (.cond (.tmp 19)
   (.seq (.reg [⟨some 4, .assign (.const (.int .i64 1)), none, false⟩])
   .ret)
   .skip))
  (.seq (.reg [⟨some 4, .assign (.const (.int .i64 0)), none, false⟩])
  .ret))))))))
theorem k_cmp_Compare_int_ : FnOk Try.prog f_cmp_Compare_int_ 20 [.tmp 4] c_cmp_Compare_int_ := ⟨_, _, Try.func52, by kernel_rfl, rfl, Try.ntmps52, rfl, by kernel_rfl⟩

def c_num_Cmp : LC :=
  (.seq (.reg [⟨some 2, .box t_api_Node (.tmp 0), none, false⟩,
   ⟨some 3, .box t_api_Node (.tmp 1), none, false⟩,
   ⟨some 4, .assign (.const (.int .i64 0)), none, false⟩])
  (.seq (.block 0 (.seq (.weak (.reg [⟨some 6, .fieldAddr t_api_Node (.tmp 2) 4, none, false⟩,
    ⟨some 7, .load t_bool (.tmp 6), none, false⟩,
    ⟨some 8, .move (.tmp 7), none, false⟩,
    ⟨some 9, .fieldAddr t_api_Node (.tmp 3) 4, some (some 8, true), false⟩,
    ⟨some 10, .load t_bool (.tmp 9), some (some 8, true), false⟩,
    ⟨some 11, .unOp .not t_bool (.tmp 10), some (some 8, true), false⟩,
    ⟨some 12, .pick (.tmp 8) (.tmp 11) (.const (.bool false)), none, false⟩,
    ⟨some 5, .assign (.tmp 12), none, false⟩]))
   (.cond (.tmp 5)
    (.seq (.reg [⟨some 4, .assign (.const (.int .i64 (-1))), none, false⟩])
    .ret)
    (.seq (.reg [⟨some 14, .fieldAddr t_api_Node (.tmp 3) 4, none, false⟩,
     ⟨some 15, .load t_bool (.tmp 14), none, false⟩,
     ⟨some 16, .move (.tmp 15), none, false⟩,
     ⟨some 17, .fieldAddr t_api_Node (.tmp 2) 4, some (some 16, true), false⟩,
     ⟨some 18, .load t_bool (.tmp 17), some (some 16, true), false⟩,
     ⟨some 19, .unOp .not t_bool (.tmp 18), some (some 16, true), false⟩,
     ⟨some 20, .pick (.tmp 16) (.tmp 19) (.const (.bool false)), none, false⟩,
     ⟨some 13, .assign (.tmp 20), none, false⟩])
    (.cond (.tmp 13)
     (.seq (.reg [⟨some 4, .assign (.const (.int .i64 1)), none, false⟩])
     .ret)
     (.seq (.reg [⟨some 22, .fieldAddr t_api_Node (.tmp 2) 4, none, false⟩,
      ⟨some 23, .load t_bool (.tmp 22), none, false⟩,
      ⟨some 21, .assign (.tmp 23), none, false⟩])
     (.cond (.tmp 21)
      (.seq (.reg [⟨some 24, .load t_api_Node (.tmp 3), none, false⟩,
       ⟨some 25, .load t_api_Node (.tmp 2), none, false⟩,
       ⟨some 26, .call ⟨.value (.func f_num_size), ⟨[(.tmp 24), (.tmp 25)]⟩, ⟨[t_api_Node, t_api_Node]⟩⟩, none, false⟩,
       ⟨some 4, .assign (.tmp 26), none, false⟩])
      .ret)
      .skip)))))))
  (.seq (.reg [⟨some 27, .load t_api_Node (.tmp 2), none, false⟩,
   ⟨some 28, .load t_api_Node (.tmp 3), none, false⟩,
   ⟨some 29, .call ⟨.value (.func f_num_size), ⟨[(.tmp 27), (.tmp 28)]⟩, ⟨[t_api_Node, t_api_Node]⟩⟩, none, false⟩,
   ⟨some 4, .assign (.tmp 29), none, false⟩])
  .ret)))
theorem k_num_Cmp : FnOk Try.prog f_num_Cmp 30 [.tmp 4] c_num_Cmp := ⟨_, _, Try.func53, by kernel_rfl, rfl, Try.ntmps53, rfl, by kernel_rfl⟩

def c_cmp_Compare_string_ : LC :=
  (.seq (.reg [⟨some 4, .assign (.const (.int .i64 0)), none, false⟩])
  (.seq (.reg [⟨some 7, .move (.tmp 0), none, false⟩,
   ⟨some 8, .call ⟨.value (.func f_cmp_isNaN_string_), ⟨[(.tmp 7)]⟩, ⟨[t_string]⟩⟩, none, false⟩,
   ⟨some 5, .assign (.tmp 8), none, false⟩])
  (.seq (.reg [⟨some 9, .move (.tmp 1), none, false⟩,
   ⟨some 10, .call ⟨.value (.func f_cmp_isNaN_string_), ⟨[(.tmp 9)]⟩, ⟨[t_string]⟩⟩, none, false⟩,
   ⟨some 6, .assign (.tmp 10), none, false⟩])
  (.seq (.seq (.reg [⟨some 11, .move (.tmp 5), none, false⟩])
  (.cond (.tmp 11)
   (.seq (.seq (.reg [⟨some 12, .move (.tmp 6), none, false⟩])
   (.cond (.tmp 12)
    (.seq (.reg [⟨some 4, .assign (.const (.int .i64 0)), none, false⟩])
    .ret)
    .skip))
   (.seq (.reg [⟨some 4, .assign (.const (.int .i64 (-1))), none, false⟩])
   .ret))
   .skip))
  (.seq (.seq (.reg [⟨some 13, .move (.tmp 6), none, false⟩])
  (.cond (.tmp 13)
   (.seq (.reg [⟨some 4, .assign (.const (.int .i64 1)), none, false⟩])
   .ret)
   .skip))
  (.seq (.seq (.reg [⟨some 14, .move (.tmp 0), none, false⟩,
   ⟨some 15, .move (.tmp 1), none, false⟩,
   ⟨some 16, .binOp .lss t_string (.tmp 14) (.tmp 15) t_string, none, false⟩])
  (.cond (.tmp 16)
   (.seq (.reg [⟨some 4, .assign (.const (.int .i64 (-1))), none, false⟩])
   .ret)
   .skip))
  (.seq (.seq (.reg [⟨some 17, .move (.tmp 0), none, false⟩,
   ⟨some 18, .move (.tmp 1), none, false⟩,
   ⟨some 19, .binOp .gtr t_string (.tmp 17) (.tmp 18) t_string, none, false⟩])
  (.cond (.tmp 19)
   (.seq (.reg [⟨some 4, .assign (.const (.int .i64 1)), none, false⟩])
   .ret)
   .skip))
  (.seq (.reg [⟨some 4, .assign (.const (.int .i64 0)), none, false⟩])
  .ret))))))))
theorem k_cmp_Compare_string_ : FnOk Try.prog f_cmp_Compare_string_ 20 [.tmp 4] c_cmp_Compare_string_ := ⟨_, _, Try.func54, by kernel_rfl, rfl, Try.ntmps54, rfl, by kernel_rfl⟩

def c_slices_Compare_L_string_string_ : LC :=
  (.seq (.reg [⟨some 4, .assign (.const (.int .i64 0)), none, false⟩])
  (.seq (.seq (.reg [⟨some 9, .move (.tmp 0), none, false⟩,
   ⟨some 10, .call ⟨.builtin .len, ⟨[(.tmp 9)]⟩, ⟨[t_L_string]⟩⟩, none, false⟩,
   ⟨some 11, .move (.const (.int .i64 0)), none, false⟩])
  (.block 0 (.loop [true, true, false, false, false, false, false, false, false, true, true, true, false, false, false, false, false, false, false, false, false, false, false, false, false, false, false, false, false, false, false, false, false, false, false, false] none
   (.seq (.reg [⟨some 12, .binOp .lss t_int (.tmp 11) (.tmp 10) t_int, none, false⟩])
    (.seq (.cond (.tmp 12)
     .skip
     (.exit 0))
    (.seq (.block 1 (.seq (.reg [⟨some 13, .move (.tmp 11), none, false⟩,
      ⟨some 14, .indexAddr t_L_string (.tmp 9) (.tmp 11), none, false⟩,
      ⟨some 15, .load t_string (.tmp 14), none, false⟩,
      ⟨some 5, .assign (.tmp 13), none, false⟩,
      ⟨some 6, .assign (.tmp 15), none, false⟩])
     (.seq (.seq (.reg [⟨some 16, .move (.tmp 5), none, false⟩,
      ⟨some 17, .move (.tmp 1), none, false⟩,
      ⟨some 18, .call ⟨.builtin .len, ⟨[(.tmp 17)]⟩, ⟨[t_L_string]⟩⟩, none, false⟩,
      ⟨some 19, .binOp .geq t_int (.tmp 16) (.tmp 18) t_int, none, false⟩])
     (.cond (.tmp 19)
      (.seq (.reg [⟨some 4, .assign (.const (.int .i64 1)), none, false⟩])
      .ret)
      .skip))
     (.seq (.reg [⟨some 20, .move (.tmp 1), none, false⟩,
      ⟨some 21, .move (.tmp 5), none, false⟩,
      ⟨some 22, .indexAddr t_L_string (.tmp 20) (.tmp 21), none, false⟩,
      ⟨some 23, .load t_string (.tmp 22), none, false⟩,
      ⟨some 7, .assign (.tmp 23), none, false⟩])
     (.seq (.reg [⟨some 24, .move (.tmp 6), none, false⟩,
      ⟨some 25, .move (.tmp 7), none, false⟩,
      ⟨some 26, .call ⟨.value (.func f_cmp_Compare_string_), ⟨[(.tmp 24), (.tmp 25)]⟩, ⟨[t_string, t_string]⟩⟩, none, false⟩,
      ⟨some 8, .assign (.tmp 26), none, false⟩])
     (.seq (.reg [⟨some 27, .move (.tmp 8), none, false⟩,
      ⟨some 28, .binOp .neq t_int (.tmp 27) (.const (.int .i64 0)) t_int, none, false⟩])
     (.cond (.tmp 28)
      (.seq (.reg [⟨some 29, .move (.tmp 8), none, false⟩,
       ⟨some 4, .assign (.tmp 29), none, false⟩])
      .ret)
      .skip)))))))
    (.reg [⟨some 30, .binOp .add t_int (.tmp 11) (.const (.int .i64 1)) t_int, none, false⟩,
     ⟨some 11, .move (.tmp 30), none, false⟩])))))))
  (.seq (.seq (.reg [⟨some 31, .move (.tmp 0), none, false⟩,
   ⟨some 32, .call ⟨.builtin .len, ⟨[(.tmp 31)]⟩, ⟨[t_L_string]⟩⟩, none, false⟩,
   ⟨some 33, .move (.tmp 1), none, false⟩,
   ⟨some 34, .call ⟨.builtin .len, ⟨[(.tmp 33)]⟩, ⟨[t_L_string]⟩⟩, none, false⟩,
   ⟨some 35, .binOp .lss t_int (.tmp 32) (.tmp 34) t_int, none, false⟩])
  (.cond (.tmp 35)
   (.seq (.reg [⟨some 4, .assign (.const (.int .i64 (-1))), none, false⟩])
   .ret)
   .skip))
  (.seq (.reg [⟨some 4, .assign (.const (.int .i64 0)), none, false⟩])
  .ret))))
theorem k_slices_Compare_L_string_string_ : FnOk Try.prog f_slices_Compare_L_string_string_ 36 [.tmp 4] c_slices_Compare_L_string_string_ := ⟨_, _, Try.func55, by kernel_rfl, rfl, Try.ntmps55, rfl, by kernel_rfl⟩

def c_val_Names : LC :=
  (.seq (.reg [⟨some 2, .assign (.const (.slice none 0 0)), none, false⟩])
  (.seq (.reg [⟨some 3, .alloc t_L_string, none, false⟩])
  (.seq (.seq (.reg [⟨some 5, .move (.tmp 0), none, false⟩,
   ⟨some 6, .indexAddr t_api_Val (.tmp 5) (.const (.int .i64 0)), none, false⟩,
   ⟨some 7, .fieldAddr t_api_Node (.tmp 6) 0, none, false⟩,
   ⟨some 8, .load t_int (.tmp 7), none, false⟩,
   ⟨some 9, .binOp .eql t_int (.tmp 8) (.const (.int .i64 6)) t_int, none, false⟩])
  (.cond (.tmp 9)
   (.seq (.reg [⟨some 10, .move (.tmp 0), none, false⟩,
    ⟨some 11, .call ⟨.value (.func f_val_each), ⟨[(.tmp 10)]⟩, ⟨[t_api_Val]⟩⟩, none, false⟩])
   (.block 0 (.rf (.tmp 11) [12, 13] none
     (.reg [⟨some 4, .assign (.tmp 12), none, false⟩])
     (.block 1 (.reg [⟨some 14, .load t_L_string (.tmp 3), none, false⟩,
       ⟨some 15, .move (.tmp 4), none, false⟩,
       ⟨some 16, .buildSlice t_L_string 1 ⟨[(0, (.tmp 15))]⟩, none, false⟩,
       ⟨some 17, .call ⟨.builtin .append, ⟨[(.tmp 14), (.tmp 16)]⟩, ⟨[t_L_string, t_L_string]⟩⟩, none, false⟩,
       ⟨none, .store t_L_string (.tmp 3) (.tmp 17), none, false⟩])))))
   .skip))
  (.seq (.reg [⟨some 18, .load t_L_string (.tmp 3), none, false⟩,
   ⟨some 2, .assign (.tmp 18), none, false⟩])
  .ret))))
theorem k_val_Names : FnOk Try.prog f_val_Names 19 [.tmp 2] c_val_Names := ⟨_, _, Try.func56, by kernel_rfl, rfl, Try.ntmps56, rfl, by kernel_rfl⟩

def c_slices_CompareFunc_L_api_Val_L_api_Val_api_Val_api_Val_ : LC :=
  (.seq (.reg [⟨some 6, .assign (.const (.int .i64 0)), none, false⟩])
  (.seq (.seq (.reg [⟨some 11, .move (.tmp 0), none, false⟩,
   ⟨some 12, .call ⟨.builtin .len, ⟨[(.tmp 11)]⟩, ⟨[t_L_api_Val]⟩⟩, none, false⟩,
   ⟨some 13, .move (.const (.int .i64 0)), none, false⟩])
  (.block 0 (.loop [true, true, true, false, false, false, false, false, false, false, false, true, true, true, false, false, false, false, false, false, false, false, false, false, false, false, false, false, false, false, false, false, false, false, false, false, false, false, false] none
   (.seq (.reg [⟨some 14, .binOp .lss t_int (.tmp 13) (.tmp 12) t_int, none, false⟩])
    (.seq (.cond (.tmp 14)
     .skip
     (.exit 0))
    (.seq (.block 1 (.seq (.reg [⟨some 15, .move (.tmp 13), none, false⟩,
      ⟨some 16, .indexAddr t_L_api_Val (.tmp 11) (.tmp 13), none, false⟩,
      ⟨some 17, .load t_api_Val (.tmp 16), none, false⟩,
      ⟨some 7, .assign (.tmp 15), none, false⟩,
      ⟨some 8, .assign (.tmp 17), none, false⟩])
     (.seq (.seq (.reg [⟨some 18, .move (.tmp 7), none, false⟩,
      ⟨some 19, .move (.tmp 1), none, false⟩,
      ⟨some 20, .call ⟨.builtin .len, ⟨[(.tmp 19)]⟩, ⟨[t_L_api_Val]⟩⟩, none, false⟩,
      ⟨some 21, .binOp .geq t_int (.tmp 18) (.tmp 20) t_int, none, false⟩])
     (.cond (.tmp 21)
      (.seq (.reg [⟨some 6, .assign (.const (.int .i64 1)), none, false⟩])
      .ret)
      .skip))
     (.seq (.reg [⟨some 22, .move (.tmp 1), none, false⟩,
      ⟨some 23, .move (.tmp 7), none, false⟩,
      ⟨some 24, .indexAddr t_L_api_Val (.tmp 22) (.tmp 23), none, false⟩,
      ⟨some 25, .load t_api_Val (.tmp 24), none, false⟩,
      ⟨some 9, .assign (.tmp 25), none, false⟩])
     (.seq (.reg [⟨some 26, .move (.tmp 2), none, false⟩,
      ⟨some 27, .move (.tmp 8), none, false⟩,
      ⟨some 28, .move (.tmp 9), none, false⟩,
      ⟨some 29, .call ⟨.value (.tmp 26), ⟨[(.tmp 27), (.tmp 28)]⟩, ⟨[t_api_Val, t_api_Val]⟩⟩, none, false⟩,
      ⟨some 10, .assign (.tmp 29), none, false⟩])
     (.seq (.reg [⟨some 30, .move (.tmp 10), none, false⟩,
      ⟨some 31, .binOp .neq t_int (.tmp 30) (.const (.int .i64 0)) t_int, none, false⟩])
     (.cond (.tmp 31)
      (.seq (.reg [⟨some 32, .move (.tmp 10), none, false⟩,
       ⟨some 6, .assign (.tmp 32), none, false⟩])
      .ret)
      .skip)))))))
    (.reg [⟨some 33, .binOp .add t_int (.tmp 13) (.const (.int .i64 1)) t_int, none, false⟩,
     ⟨some 13, .move (.tmp 33), none, false⟩])))))))
  (.seq (.seq (.reg [⟨some 34, .move (.tmp 0), none, false⟩,
   ⟨some 35, .call ⟨.builtin .len, ⟨[(.tmp 34)]⟩, ⟨[t_L_api_Val]⟩⟩, none, false⟩,
   ⟨some 36, .move (.tmp 1), none, false⟩,
   ⟨some 37, .call ⟨.builtin .len, ⟨[(.tmp 36)]⟩, ⟨[t_L_api_Val]⟩⟩, none, false⟩,
   ⟨some 38, .binOp .lss t_int (.tmp 35) (.tmp 37) t_int, none, false⟩])
  (.cond (.tmp 38)
   (.seq (.reg [⟨some 6, .assign (.const (.int .i64 (-1))), none, false⟩])
   .ret)
   .skip))
  (.seq (.reg [⟨some 6, .assign (.const (.int .i64 0)), none, false⟩])
  .ret))))
theorem k_slices_CompareFunc_L_api_Val_L_api_Val_api_Val_api_Val_ : FnOk Try.prog f_slices_CompareFunc_L_api_Val_L_api_Val_api_Val_api_Val_ 39 [.tmp 6] c_slices_CompareFunc_L_api_Val_L_api_Val_api_Val_api_Val_ := ⟨_, _, Try.func57, by kernel_rfl, rfl, Try.ntmps57, rfl, by kernel_rfl⟩

def c_val_Parts : LC :=
  (.seq (.reg [⟨some 2, .assign (.const (.slice none 0 0)), none, false⟩])
  (.seq (.reg [⟨some 3, .alloc t_L_api_Val, none, false⟩])
  (.seq (.seq (.reg [⟨some 6, .move (.tmp 0), none, false⟩,
   ⟨some 7, .call ⟨.value (.func f_val_each), ⟨[(.tmp 6)]⟩, ⟨[t_api_Val]⟩⟩, none, false⟩])
  (.block 0 (.rf (.tmp 7) [8, 9] none
    (.reg [⟨some 5, .assign (.tmp 9), none, false⟩])
    (.block 1 (.reg [⟨some 10, .load t_L_api_Val (.tmp 3), none, false⟩,
      ⟨some 11, .move (.tmp 5), none, false⟩,
      ⟨some 12, .buildSlice t_L_api_Val 1 ⟨[(0, (.tmp 11))]⟩, none, false⟩,
      ⟨some 13, .call ⟨.builtin .append, ⟨[(.tmp 10), (.tmp 12)]⟩, ⟨[t_L_api_Val, t_L_api_Val]⟩⟩, none, false⟩,
      ⟨none, .store t_L_api_Val (.tmp 3) (.tmp 13), none, false⟩])))))
  (.seq (.reg [⟨some 14, .load t_L_api_Val (.tmp 3), none, false⟩,
   ⟨some 2, .assign (.tmp 14), none, false⟩])
  .ret))))
theorem k_val_Parts : FnOk Try.prog f_val_Parts 15 [.tmp 2] c_val_Parts := ⟨_, _, Try.func58, by kernel_rfl, rfl, Try.ntmps58, rfl, by kernel_rfl⟩

def c_louperef05_sign : LC :=
  (.seq (.reg [⟨some 4, .assign (.const (.int .i64 0)), none, false⟩])
  (.seq (.seq (.reg [⟨some 5, .move (.tmp 1), none, false⟩])
  (.cond (.tmp 5)
   (.seq (.reg [⟨some 4, .assign (.const (.int .i64 0)), none, false⟩])
   .ret)
   .skip))
  (.seq (.seq (.reg [⟨some 6, .move (.tmp 0), none, false⟩])
  (.cond (.tmp 6)
   (.seq (.reg [⟨some 4, .assign (.const (.int .i64 (-1))), none, false⟩])
   .ret)
   .skip))
  (.seq (.reg [⟨some 4, .assign (.const (.int .i64 1)), none, false⟩])
  .ret))))
theorem k_louperef05_sign : FnOk Try.prog f_louperef05_sign 7 [.tmp 4] c_louperef05_sign := ⟨_, _, Try.func59, by kernel_rfl, rfl, Try.ntmps59, rfl, by kernel_rfl⟩

def c_louperef01_Cmp : LC :=
  (.seq (.reg [⟨some 2, .box t_api_Node (.tmp 0), none, false⟩,
   ⟨some 3, .box t_api_Node (.tmp 1), none, false⟩,
   ⟨some 4, .assign (.const (.int .i64 0)), none, false⟩])
  (.seq (.weak (.reg [⟨some 5, .assign (.const (.int .i64 1)), none, false⟩]))
  (.seq (.seq (.reg [⟨some 10, .fieldAddr t_api_Node (.tmp 2) 4, none, false⟩,
   ⟨some 11, .load t_bool (.tmp 10), none, false⟩])
  (.cond (.tmp 11)
   (.reg [⟨some 5, .assign (.const (.int .i64 (-1))), none, false⟩])
   .skip))
  (.seq (.seq (.reg [⟨some 12, .fieldAddr t_api_Node (.tmp 2) 4, none, false⟩,
   ⟨some 13, .load t_bool (.tmp 12), none, false⟩,
   ⟨some 14, .fieldAddr t_api_Node (.tmp 3) 4, none, false⟩,
   ⟨some 15, .load t_bool (.tmp 14), none, false⟩,
   ⟨some 16, .binOp .neq t_bool (.tmp 13) (.tmp 15) t_bool, none, false⟩])
  (.cond (.tmp 16)
   (.seq (.reg [⟨some 17, .move (.tmp 5), none, false⟩,
    ⟨some 4, .assign (.tmp 17), none, false⟩])
   .ret)
   .skip))
  (.seq (.reg [⟨some 18, .fieldAddr t_api_Node (.tmp 2) 3, none, false⟩,
   ⟨some 19, .load t_string (.tmp 18), none, false⟩,
   ⟨some 20, .call ⟨.builtin .len, ⟨[(.tmp 19)]⟩, ⟨[t_string]⟩⟩, none, false⟩,
   ⟨some 21, .fieldAddr t_api_Node (.tmp 2) 5, none, false⟩,
   ⟨some 22, .load t_int (.tmp 21), none, false⟩,
   ⟨some 23, .binOp .add t_int (.tmp 20) (.tmp 22) t_int, none, false⟩,
   ⟨some 24, .fieldAddr t_api_Node (.tmp 3) 3, none, false⟩,
   ⟨some 25, .load t_string (.tmp 24), none, false⟩,
   ⟨some 26, .call ⟨.builtin .len, ⟨[(.tmp 25)]⟩, ⟨[t_string]⟩⟩, none, false⟩,
   ⟨some 27, .fieldAddr t_api_Node (.tmp 3) 5, none, false⟩,
   ⟨some 28, .load t_int (.tmp 27), none, false⟩,
   ⟨some 29, .binOp .add t_int (.tmp 26) (.tmp 28) t_int, none, false⟩,
   ⟨some 30, .call ⟨.builtin .max, ⟨[(.tmp 23), (.tmp 29)]⟩, ⟨[t_int, t_int]⟩⟩, none, false⟩,
   ⟨some 6, .assign (.tmp 30), none, false⟩])
  (.seq (.seq (.reg [⟨some 31, .move (.tmp 6), none, false⟩,
   ⟨some 7, .assign (.tmp 31), none, false⟩])
  (.block 0 (.loop [false, false, true, true, false, true, false, true, false, false, false, false, false, false, false, false, false, false, false, false, false, false, false, false, false, false, false, false, false, false, false, false, false, false, false, false, false, false, false, false, false, false, false, false, false, false, false, false, false, false, false, false, false, false, false, false] none
   (.seq (.seq (.reg [⟨some 32, .move (.tmp 7), none, false⟩,
     ⟨some 33, .fieldAddr t_api_Node (.tmp 2) 5, none, false⟩,
     ⟨some 34, .load t_int (.tmp 33), none, false⟩,
     ⟨some 35, .fieldAddr t_api_Node (.tmp 3) 5, none, false⟩,
     ⟨some 36, .load t_int (.tmp 35), none, false⟩,
     ⟨some 37, .call ⟨.builtin .min, ⟨[(.tmp 34), (.tmp 36)]⟩, ⟨[t_int, t_int]⟩⟩, none, false⟩,
     ⟨some 38, .binOp .geq t_int (.tmp 32) (.tmp 37) t_int, none, false⟩])
    (.cond (.tmp 38)
     .skip
     (.exit 0)))
    (.seq (.block 1 (.seq (.draw [⟨some 41, .load t_api_Node (.tmp 2), none, false⟩,
      ⟨some 42, .move (.tmp 7), none, false⟩,
      ⟨some 43, .call ⟨.value (.func f_louperef01_at), ⟨[(.tmp 41), (.tmp 42)]⟩, ⟨[t_api_Node, t_int]⟩⟩, none, false⟩,
      ⟨some 44, .load t_api_Node (.tmp 3), none, false⟩,
      ⟨some 45, .move (.tmp 7), none, false⟩,
      ⟨some 46, .call ⟨.value (.func f_louperef01_at), ⟨[(.tmp 44), (.tmp 45)]⟩, ⟨[t_api_Node, t_int]⟩⟩, none, false⟩,
      ⟨some 8, .assign (.tmp 43), none, false⟩,
      ⟨some 9, .assign (.tmp 46), none, false⟩]
     [0, 1, 0, 7, 15, 0, 0, 0])
     (.seq (.seq (.reg [⟨some 47, .move (.tmp 8), none, false⟩,
      ⟨some 48, .move (.tmp 9), none, false⟩,
      ⟨some 49, .binOp .lss t_int (.tmp 47) (.tmp 48) t_int, none, false⟩])
     (.cond (.tmp 49)
      (.seq (.reg [⟨some 50, .move (.tmp 5), none, false⟩,
       ⟨some 51, .unOp .neg t_int (.tmp 50), none, false⟩,
       ⟨some 4, .assign (.tmp 51), none, false⟩])
      .ret)
      .skip))
     (.seq (.reg [⟨some 52, .move (.tmp 8), none, false⟩,
      ⟨some 53, .move (.tmp 9), none, false⟩,
      ⟨some 54, .binOp .gtr t_int (.tmp 52) (.tmp 53) t_int, none, false⟩])
     (.cond (.tmp 54)
      (.seq (.reg [⟨some 55, .move (.tmp 5), none, false⟩,
       ⟨some 4, .assign (.tmp 55), none, false⟩])
      .ret)
      .skip)))))
    (.reg [⟨some 39, .move (.tmp 7), none, false⟩,
     ⟨some 40, .binOp .sub t_int (.tmp 39) (.const (.int .i64 1)) t_int, none, false⟩,
     ⟨some 7, .assign (.tmp 40), none, false⟩]))))))
  (.seq (.reg [⟨some 4, .assign (.const (.int .i64 0)), none, false⟩])
  .ret)))))))
theorem k_louperef01_Cmp : FnOk Try.prog f_louperef01_Cmp 56 [.tmp 4] c_louperef01_Cmp := ⟨_, _, Try.func60, by kernel_rfl, rfl, Try.ntmps60, rfl, by kernel_rfl⟩

def c_louperef05_rows : LC :=
  (.seq (.reg [⟨some 4, .assign (.const (.int .i64 0)), none, false⟩])
  (.seq (.seq (.reg [⟨some 5, .assign (.const (.int .i64 0)), none, false⟩])
  (.block 0 (.loop [true, true, false, false, false, true, false, false, false, false, false, false, false, false, false, false, false, false, false, false, false, false, false, false, false, false, false, false, false, false, false, false, false, false, false, false, false, false, false, false, false, false] none
   (.seq (.seq (.reg [⟨some 7, .move (.tmp 5), none, false⟩,
     ⟨some 8, .move (.tmp 0), none, false⟩,
     ⟨some 9, .call ⟨.builtin .len, ⟨[(.tmp 8)]⟩, ⟨[t_L_api_Val]⟩⟩, none, false⟩,
     ⟨some 10, .binOp .lss t_int (.tmp 7) (.tmp 9) t_int, none, false⟩,
     ⟨some 11, .move (.tmp 10), none, false⟩,
     ⟨some 12, .move (.tmp 5), some (some 11, true), false⟩,
     ⟨some 13, .move (.tmp 1), some (some 11, true), false⟩,
     ⟨some 14, .call ⟨.builtin .len, ⟨[(.tmp 13)]⟩, ⟨[t_L_api_Val]⟩⟩, some (some 11, true), false⟩,
     ⟨some 15, .binOp .lss t_int (.tmp 12) (.tmp 14) t_int, some (some 11, true), false⟩,
     ⟨some 16, .pick (.tmp 11) (.tmp 15) (.const (.bool false)), none, false⟩])
    (.cond (.tmp 16)
     .skip
     (.exit 0)))
    (.seq (.block 1 (.seq (.draw [⟨some 19, .move (.tmp 0), none, false⟩,
      ⟨some 20, .move (.tmp 5), none, false⟩,
      ⟨some 21, .indexAddr t_L_api_Val (.tmp 19) (.tmp 20), none, false⟩,
      ⟨some 22, .load t_api_Val (.tmp 21), none, false⟩,
      ⟨some 23, .move (.tmp 1), none, false⟩,
      ⟨some 24, .move (.tmp 5), none, false⟩,
      ⟨some 25, .indexAddr t_L_api_Val (.tmp 23) (.tmp 24), none, false⟩,
      ⟨some 26, .load t_api_Val (.tmp 25), none, false⟩,
      ⟨some 27, .call ⟨.value (.func f_louperef05_Cmp), ⟨[(.tmp 22), (.tmp 26)]⟩, ⟨[t_api_Val, t_api_Val]⟩⟩, none, false⟩,
      ⟨some 6, .assign (.tmp 27), none, false⟩]
     [0, 1, 0, 0, 15, 31, 15, 15, 0, 0])
     (.seq (.reg [⟨some 28, .move (.tmp 6), none, false⟩,
      ⟨some 29, .binOp .neq t_int (.tmp 28) (.const (.int .i64 0)) t_int, none, false⟩])
     (.cond (.tmp 29)
      (.seq (.reg [⟨some 30, .move (.tmp 6), none, false⟩,
       ⟨some 4, .assign (.tmp 30), none, false⟩])
      .ret)
      .skip))))
    (.reg [⟨some 17, .move (.tmp 5), none, false⟩,
     ⟨some 18, .binOp .add t_int (.tmp 17) (.const (.int .i64 1)) t_int, none, false⟩,
     ⟨some 5, .assign (.tmp 18), none, false⟩]))))))
  (.seq (.reg [⟨some 31, .move (.tmp 0), none, false⟩,
   ⟨some 32, .call ⟨.builtin .len, ⟨[(.tmp 31)]⟩, ⟨[t_L_api_Val]⟩⟩, none, false⟩,
   ⟨some 33, .move (.tmp 1), none, false⟩,
   ⟨some 34, .call ⟨.builtin .len, ⟨[(.tmp 33)]⟩, ⟨[t_L_api_Val]⟩⟩, none, false⟩,
   ⟨some 35, .binOp .lss t_int (.tmp 32) (.tmp 34) t_int, none, false⟩,
   ⟨some 36, .move (.tmp 0), none, false⟩,
   ⟨some 37, .call ⟨.builtin .len, ⟨[(.tmp 36)]⟩, ⟨[t_L_api_Val]⟩⟩, none, false⟩,
   ⟨some 38, .move (.tmp 1), none, false⟩,
   ⟨some 39, .call ⟨.builtin .len, ⟨[(.tmp 38)]⟩, ⟨[t_L_api_Val]⟩⟩, none, false⟩,
   ⟨some 40, .binOp .eql t_int (.tmp 37) (.tmp 39) t_int, none, false⟩,
   ⟨some 41, .call ⟨.value (.func f_louperef05_sign), ⟨[(.tmp 35), (.tmp 40)]⟩, ⟨[t_bool, t_bool]⟩⟩, none, false⟩,
   ⟨some 4, .assign (.tmp 41), none, false⟩])
  .ret)))
theorem k_louperef05_rows : FnOk Try.prog f_louperef05_rows 42 [.tmp 4] c_louperef05_rows := ⟨_, _, Try.func61, by kernel_rfl, rfl, Try.ntmps61, rfl, by kernel_rfl⟩

def c_louperef02_Parts : LC :=
  (.seq (.reg [⟨some 2, .assign (.const (.slice none 0 0)), none, false⟩])
  (.seq (.reg [⟨some 7, .buildSlice t_L_api_Val 0 ⟨[]⟩, none, true⟩,
   ⟨some 3, .assign (.tmp 7), none, false⟩])
  (.seq (.reg [⟨some 4, .assign (.const (.int .i64 1)), none, false⟩])
  (.seq (.seq (.reg [⟨some 5, .assign (.const (.int .i64 0)), none, false⟩])
  (.block 0 (.loop [true, false, false, true, true, true, false, false, false, false, false, false, false, false, false, false, false, false, false, false, false, false, false, false, false, false, false, false] none
   (.seq (.seq (.reg [⟨some 8, .move (.tmp 5), none, false⟩,
     ⟨some 9, .move (.tmp 0), none, false⟩,
     ⟨some 10, .indexAddr t_api_Val (.tmp 9) (.const (.int .i64 0)), none, false⟩,
     ⟨some 11, .fieldAddr t_api_Node (.tmp 10) 1, none, false⟩,
     ⟨some 12, .load t_int (.tmp 11), none, false⟩,
     ⟨some 13, .binOp .lss t_int (.tmp 8) (.tmp 12) t_int, none, false⟩])
    (.cond (.tmp 13)
     .skip
     (.exit 0)))
    (.seq (.block 1 (.seq (.reg [⟨some 16, .move (.tmp 0), none, false⟩,
      ⟨some 17, .move (.tmp 4), none, false⟩,
      ⟨some 18, .call ⟨.value (.func f_louperef02_Next), ⟨[(.tmp 16), (.tmp 17)]⟩, ⟨[t_api_Val, t_int]⟩⟩, none, false⟩,
      ⟨some 6, .assign (.tmp 18), none, false⟩])
     (.seq (.reg [⟨some 19, .move (.tmp 3), none, false⟩,
      ⟨some 20, .move (.tmp 0), none, false⟩,
      ⟨some 21, .move (.tmp 4), none, false⟩,
      ⟨some 22, .move (.tmp 6), none, false⟩,
      ⟨some 23, .call ⟨.value (.func f_louperef02_own), ⟨[(.tmp 20), (.tmp 21), (.tmp 22)]⟩, ⟨[t_api_Val, t_int, t_int]⟩⟩, none, false⟩,
      ⟨some 24, .buildSlice t_L_api_Val 1 ⟨[(0, (.tmp 23))]⟩, none, false⟩,
      ⟨some 25, .call ⟨.builtin .append, ⟨[(.tmp 19), (.tmp 24)]⟩, ⟨[t_L_api_Val, t_L_api_Val]⟩⟩, none, false⟩,
      ⟨some 3, .assign (.tmp 25), none, false⟩])
     (.reg [⟨some 26, .move (.tmp 6), none, false⟩,
      ⟨some 4, .assign (.tmp 26), none, false⟩]))))
    (.reg [⟨some 14, .move (.tmp 5), none, false⟩,
     ⟨some 15, .binOp .add t_int (.tmp 14) (.const (.int .i64 1)) t_int, none, false⟩,
     ⟨some 5, .assign (.tmp 15), none, false⟩]))))))
  (.seq (.reg [⟨some 27, .move (.tmp 3), none, false⟩,
   ⟨some 2, .assign (.tmp 27), none, false⟩])
  .ret)))))
theorem k_louperef02_Parts : FnOk Try.prog f_louperef02_Parts 28 [.tmp 2] c_louperef02_Parts := ⟨_, _, Try.func62, by kernel_rfl, rfl, Try.ntmps62, rfl, by kernel_rfl⟩

def c_louperef05_names : LC :=
  (.seq (.reg [⟨some 4, .assign (.const (.int .i64 0)), none, false⟩])
  (.seq (.seq (.reg [⟨some 5, .assign (.const (.int .i64 0)), none, false⟩])
  (.block 0 (.loop [true, true, false, false, false, true, false, false, false, false, false, false, false, false, false, false, false, false, false, false, false, false, false, false, false, false, false, false, false, false, false, false, false, false, false, false, false, false, false, false, false, false, false, false, false, false, false, false] none
   (.seq (.seq (.reg [⟨some 6, .move (.tmp 5), none, false⟩,
     ⟨some 7, .move (.tmp 0), none, false⟩,
     ⟨some 8, .call ⟨.builtin .len, ⟨[(.tmp 7)]⟩, ⟨[t_L_string]⟩⟩, none, false⟩,
     ⟨some 9, .binOp .lss t_int (.tmp 6) (.tmp 8) t_int, none, false⟩,
     ⟨some 10, .move (.tmp 9), none, false⟩,
     ⟨some 11, .move (.tmp 5), some (some 10, true), false⟩,
     ⟨some 12, .move (.tmp 1), some (some 10, true), false⟩,
     ⟨some 13, .call ⟨.builtin .len, ⟨[(.tmp 12)]⟩, ⟨[t_L_string]⟩⟩, some (some 10, true), false⟩,
     ⟨some 14, .binOp .lss t_int (.tmp 11) (.tmp 13) t_int, some (some 10, true), false⟩,
     ⟨some 15, .pick (.tmp 10) (.tmp 14) (.const (.bool false)), none, false⟩])
    (.cond (.tmp 15)
     .skip
     (.exit 0)))
    (.seq (.block 1 (.seq (.draw [⟨some 18, .move (.tmp 0), none, false⟩,
      ⟨some 19, .move (.tmp 5), none, false⟩,
      ⟨some 20, .indexAddr t_L_string (.tmp 18) (.tmp 19), none, false⟩,
      ⟨some 21, .load t_string (.tmp 20), none, false⟩,
      ⟨some 22, .move (.tmp 1), none, false⟩,
      ⟨some 23, .move (.tmp 5), none, false⟩,
      ⟨some 24, .indexAddr t_L_string (.tmp 22) (.tmp 23), none, false⟩,
      ⟨some 25, .load t_string (.tmp 24), none, false⟩,
      ⟨some 26, .binOp .neq t_string (.tmp 21) (.tmp 25) t_string, none, false⟩]
     [0, 1, 0, 0, 15, 31, 15, 15, 0])
     (.cond (.tmp 26)
      (.seq (.draw [⟨some 27, .move (.tmp 0), none, false⟩,
       ⟨some 28, .move (.tmp 5), none, false⟩,
       ⟨some 29, .indexAddr t_L_string (.tmp 27) (.tmp 28), none, false⟩,
       ⟨some 30, .load t_string (.tmp 29), none, false⟩,
       ⟨some 31, .move (.tmp 1), none, false⟩,
       ⟨some 32, .move (.tmp 5), none, false⟩,
       ⟨some 33, .indexAddr t_L_string (.tmp 31) (.tmp 32), none, false⟩,
       ⟨some 34, .load t_string (.tmp 33), none, false⟩,
       ⟨some 35, .binOp .lss t_string (.tmp 30) (.tmp 34) t_string, none, false⟩,
       ⟨some 36, .call ⟨.value (.func f_louperef05_sign), ⟨[(.tmp 35), (.const (.bool false))]⟩, ⟨[t_bool, t_bool]⟩⟩, none, false⟩,
       ⟨some 4, .assign (.tmp 36), none, false⟩]
      [0, 1, 0, 0, 15, 31, 15, 15, 0, 0, 0])
      .ret)
      .skip)))
    (.reg [⟨some 16, .move (.tmp 5), none, false⟩,
     ⟨some 17, .binOp .add t_int (.tmp 16) (.const (.int .i64 1)) t_int, none, false⟩,
     ⟨some 5, .assign (.tmp 17), none, false⟩]))))))
  (.seq (.reg [⟨some 37, .move (.tmp 0), none, false⟩,
   ⟨some 38, .call ⟨.builtin .len, ⟨[(.tmp 37)]⟩, ⟨[t_L_string]⟩⟩, none, false⟩,
   ⟨some 39, .move (.tmp 1), none, false⟩,
   ⟨some 40, .call ⟨.builtin .len, ⟨[(.tmp 39)]⟩, ⟨[t_L_string]⟩⟩, none, false⟩,
   ⟨some 41, .binOp .lss t_int (.tmp 38) (.tmp 40) t_int, none, false⟩,
   ⟨some 42, .move (.tmp 0), none, false⟩,
   ⟨some 43, .call ⟨.builtin .len, ⟨[(.tmp 42)]⟩, ⟨[t_L_string]⟩⟩, none, false⟩,
   ⟨some 44, .move (.tmp 1), none, false⟩,
   ⟨some 45, .call ⟨.builtin .len, ⟨[(.tmp 44)]⟩, ⟨[t_L_string]⟩⟩, none, false⟩,
   ⟨some 46, .binOp .eql t_int (.tmp 43) (.tmp 45) t_int, none, false⟩,
   ⟨some 47, .call ⟨.value (.func f_louperef05_sign), ⟨[(.tmp 41), (.tmp 46)]⟩, ⟨[t_bool, t_bool]⟩⟩, none, false⟩,
   ⟨some 4, .assign (.tmp 47), none, false⟩])
  .ret)))
theorem k_louperef05_names : FnOk Try.prog f_louperef05_names 48 [.tmp 4] c_louperef05_names := ⟨_, _, Try.func63, by kernel_rfl, rfl, Try.ntmps63, rfl, by kernel_rfl⟩

def c_louperef02_Names : LC :=
  (.seq (.reg [⟨some 2, .assign (.const (.slice none 0 0)), none, false⟩])
  (.seq (.reg [⟨some 6, .buildSlice t_L_string 0 ⟨[]⟩, none, true⟩,
   ⟨some 3, .assign (.tmp 6), none, false⟩])
  (.seq (.reg [⟨some 4, .assign (.const (.int .i64 1)), none, false⟩])
  (.seq (.seq (.reg [⟨some 5, .assign (.const (.int .i64 0)), none, false⟩])
  (.block 0 (.loop [true, false, false, true, true, true, false, false, false, false, false, false, false, false, false, false, false, false, false, false, false, false, false, false, false, false, false, false, false, false, false, false, false, false] none
   (.seq (.seq (.reg [⟨some 7, .move (.tmp 5), none, false⟩,
     ⟨some 8, .move (.tmp 0), none, false⟩,
     ⟨some 9, .indexAddr t_api_Val (.tmp 8) (.const (.int .i64 0)), none, false⟩,
     ⟨some 10, .fieldAddr t_api_Node (.tmp 9) 1, none, false⟩,
     ⟨some 11, .load t_int (.tmp 10), none, false⟩,
     ⟨some 12, .binOp .lss t_int (.tmp 7) (.tmp 11) t_int, none, false⟩,
     ⟨some 13, .move (.tmp 12), none, false⟩,
     ⟨some 14, .move (.tmp 0), some (some 13, true), false⟩,
     ⟨some 15, .indexAddr t_api_Val (.tmp 14) (.const (.int .i64 0)), some (some 13, true), false⟩,
     ⟨some 16, .fieldAddr t_api_Node (.tmp 15) 0, some (some 13, true), false⟩,
     ⟨some 17, .load t_int (.tmp 16), some (some 13, true), false⟩,
     ⟨some 18, .binOp .eql t_int (.tmp 17) (.const (.int .i64 6)) t_int, some (some 13, true), false⟩,
     ⟨some 19, .pick (.tmp 13) (.tmp 18) (.const (.bool false)), none, false⟩])
    (.cond (.tmp 19)
     .skip
     (.exit 0)))
    (.seq (.block 1 (.seq (.reg [⟨some 22, .move (.tmp 3), none, false⟩,
      ⟨some 23, .move (.tmp 0), none, false⟩,
      ⟨some 24, .move (.tmp 4), none, false⟩,
      ⟨some 25, .indexAddr t_api_Val (.tmp 23) (.tmp 24), none, false⟩,
      ⟨some 26, .fieldAddr t_api_Node (.tmp 25) 2, none, false⟩,
      ⟨some 27, .load t_string (.tmp 26), none, false⟩,
      ⟨some 28, .buildSlice t_L_string 1 ⟨[(0, (.tmp 27))]⟩, none, false⟩,
      ⟨some 29, .call ⟨.builtin .append, ⟨[(.tmp 22), (.tmp 28)]⟩, ⟨[t_L_string, t_L_string]⟩⟩, none, false⟩,
      ⟨some 3, .assign (.tmp 29), none, false⟩])
     (.reg [⟨some 30, .move (.tmp 0), none, false⟩,
      ⟨some 31, .move (.tmp 4), none, false⟩,
      ⟨some 32, .call ⟨.value (.func f_louperef02_Next), ⟨[(.tmp 30), (.tmp 31)]⟩, ⟨[t_api_Val, t_int]⟩⟩, none, false⟩,
      ⟨some 4, .assign (.tmp 32), none, false⟩])))
    (.reg [⟨some 20, .move (.tmp 5), none, false⟩,
     ⟨some 21, .binOp .add t_int (.tmp 20) (.const (.int .i64 1)) t_int, none, false⟩,
     ⟨some 5, .assign (.tmp 21), none, false⟩]))))))
  (.seq (.reg [⟨some 33, .move (.tmp 3), none, false⟩,
   ⟨some 2, .assign (.tmp 33), none, false⟩])
  .ret)))))
theorem k_louperef02_Names : FnOk Try.prog f_louperef02_Names 34 [.tmp 2] c_louperef02_Names := ⟨_, _, Try.func64, by kernel_rfl, rfl, Try.ntmps64, rfl, by kernel_rfl⟩

def c_slices_IsSortedFunc_L_api_Val_api_Val_ : LC :=
  (.seq (.reg [⟨some 4, .assign (.const (.bool false)), none, false⟩])
  (.seq (.seq (.reg [⟨some 6, .move (.tmp 0), none, false⟩,
   ⟨some 7, .call ⟨.builtin .len, ⟨[(.tmp 6)]⟩, ⟨[t_L_api_Val]⟩⟩, none, false⟩,
   ⟨some 8, .binOp .sub t_int (.tmp 7) (.const (.int .i64 1)) t_int, none, false⟩,
   ⟨some 5, .assign (.tmp 8), none, false⟩])
  (.block 0 (.loop [true, true, false, false, false, true, false, false, false, false, false, false, false, false, false, false, false, false, false, false, false, false, false, false, false] none
   (.seq (.seq (.reg [⟨some 9, .move (.tmp 5), none, false⟩,
     ⟨some 10, .binOp .gtr t_int (.tmp 9) (.const (.int .i64 0)) t_int, none, false⟩])
    (.cond (.tmp 10)
     .skip
     (.exit 0)))
    (.seq (.block 1 (.seq (.draw [⟨some 13, .move (.tmp 1), none, false⟩,
      ⟨some 14, .move (.tmp 0), none, false⟩,
      ⟨some 15, .move (.tmp 5), none, false⟩,
      ⟨some 16, .indexAddr t_L_api_Val (.tmp 14) (.tmp 15), none, false⟩,
      ⟨some 17, .load t_api_Val (.tmp 16), none, false⟩,
      ⟨some 18, .move (.tmp 0), none, false⟩,
      ⟨some 19, .move (.tmp 5), none, false⟩,
      ⟨some 20, .binOp .sub t_int (.tmp 19) (.const (.int .i64 1)) t_int, none, false⟩,
      ⟨some 21, .indexAddr t_L_api_Val (.tmp 18) (.tmp 20), none, false⟩,
      ⟨some 22, .load t_api_Val (.tmp 21), none, false⟩,
      ⟨some 23, .call ⟨.value (.tmp 13), ⟨[(.tmp 17), (.tmp 22)]⟩, ⟨[t_api_Val, t_api_Val]⟩⟩, none, false⟩,
      ⟨some 24, .binOp .lss t_int (.tmp 23) (.const (.int .i64 0)) t_int, none, false⟩]
     [0, 1, 3, 1, 1, 31, 63, 63, 31, 31, 0, 0])
     (.cond (.tmp 24)
      (.seq (.reg [⟨some 4, .assign (.const (.bool false)), none, false⟩])
      .ret)
      .skip)))
    (.reg [⟨some 11, .move (.tmp 5), none, false⟩,
     ⟨some 12, .binOp .sub t_int (.tmp 11) (.const (.int .i64 1)) t_int, none, false⟩,
     ⟨some 5, .assign (.tmp 12), none, false⟩]))))))
  (.seq (.reg [⟨some 4, .assign (.const (.bool true)), none, false⟩])
  .ret)))
theorem k_slices_IsSortedFunc_L_api_Val_api_Val_ : FnOk Try.prog f_slices_IsSortedFunc_L_api_Val_api_Val_ 25 [.tmp 4] c_slices_IsSortedFunc_L_api_Val_api_Val_ := ⟨_, _, Try.func65, by kernel_rfl, rfl, Try.ntmps65, rfl, by kernel_rfl⟩

def c_order_sorted_int_ : LC :=
  (.seq (.reg [⟨some 4, .assign (.const (.slice none 0 0)), none, false⟩])
  (.seq (.seq (.reg [⟨some 6, .move (.tmp 0), none, false⟩,
   ⟨some 7, .call ⟨.builtin .len, ⟨[(.tmp 6)]⟩, ⟨[t_L_int]⟩⟩, none, false⟩,
   ⟨some 8, .binOp .lss t_int (.tmp 7) (.const (.int .i64 2)) t_int, none, false⟩])
  (.cond (.tmp 8)
   (.seq (.reg [⟨some 9, .move (.tmp 0), none, false⟩,
    ⟨some 4, .assign (.tmp 9), none, false⟩])
   .ret)
   .skip))
  (.seq (.reg [⟨some 10, .move (.tmp 0), none, false⟩,
   ⟨some 11, .call ⟨.builtin .len, ⟨[(.tmp 10)]⟩, ⟨[t_L_int]⟩⟩, none, false⟩,
   ⟨some 12, .binOp .quo t_int (.tmp 11) (.const (.int .i64 2)) t_int, none, false⟩,
   ⟨some 5, .assign (.tmp 12), none, false⟩])
  (.seq (.draw [⟨some 13, .move (.tmp 0), none, false⟩,
   ⟨some 14, .move (.tmp 5), none, false⟩,
   ⟨some 15, .slice t_L_int (.tmp 13) none (some (.tmp 14)) none, none, false⟩,
   ⟨some 16, .move (.tmp 1), none, false⟩,
   ⟨some 17, .call ⟨.value (.func f_order_sorted_int_), ⟨[(.tmp 15), (.tmp 16)]⟩, ⟨[t_L_int, t_func_int__int__bool]⟩⟩, none, false⟩,
   ⟨some 18, .move (.tmp 0), none, false⟩,
   ⟨some 19, .move (.tmp 5), none, false⟩,
   ⟨some 20, .slice t_L_int (.tmp 18) (some (.tmp 19)) none none, none, false⟩,
   ⟨some 21, .move (.tmp 1), none, false⟩,
   ⟨some 22, .call ⟨.value (.func f_order_sorted_int_), ⟨[(.tmp 20), (.tmp 21)]⟩, ⟨[t_L_int, t_func_int__int__bool]⟩⟩, none, false⟩,
   ⟨some 23, .move (.tmp 1), none, false⟩,
   ⟨some 24, .call ⟨.value (.func f_order_merged_int_), ⟨[(.tmp 17), (.tmp 22), (.tmp 23)]⟩, ⟨[t_L_int, t_L_int, t_func_int__int__bool]⟩⟩, none, false⟩,
   ⟨some 4, .assign (.tmp 24), none, false⟩]
  [0, 1, 0, 7, 0, 31, 63, 31, 255, 0, 1023, 0, 0])
  .ret))))
theorem k_order_sorted_int_ : FnOk Try.prog f_order_sorted_int_ 25 [.tmp 4] c_order_sorted_int_ := ⟨_, _, Try.func66, by kernel_rfl, rfl, Try.ntmps66, rfl, by kernel_rfl⟩

def c_order_Sort_1 : LC :=
  (.seq (.reg [⟨some 5, .assign (.const (.bool false)), none, false⟩])
  (.seq (.draw [⟨some 6, .load t_L_api_Val (.tmp 2), none, false⟩,
   ⟨some 7, .move (.tmp 0), none, false⟩,
   ⟨some 8, .indexAddr t_L_api_Val (.tmp 6) (.tmp 7), none, false⟩,
   ⟨some 9, .load t_api_Val (.tmp 8), none, false⟩,
   ⟨some 10, .load t_L_api_Val (.tmp 2), none, false⟩,
   ⟨some 11, .move (.tmp 1), none, false⟩,
   ⟨some 12, .indexAddr t_L_api_Val (.tmp 10) (.tmp 11), none, false⟩,
   ⟨some 13, .load t_api_Val (.tmp 12), none, false⟩,
   ⟨some 14, .call ⟨.value (.func f_order_Cmp), ⟨[(.tmp 9), (.tmp 13)]⟩, ⟨[t_api_Val, t_api_Val]⟩⟩, none, false⟩,
   ⟨some 15, .binOp .lss t_int (.tmp 14) (.const (.int .i64 0)) t_int, none, false⟩,
   ⟨some 5, .assign (.tmp 15), none, false⟩]
  [0, 1, 0, 0, 15, 31, 15, 15, 0, 0, 0])
  .ret))
theorem k_order_Sort_1 : FnOk Try.prog f_order_Sort_1 16 [.tmp 5] c_order_Sort_1 := ⟨_, _, Try.func67, by kernel_rfl, rfl, Try.ntmps67, rfl, by kernel_rfl⟩

def c_louperef02_Rune : LC :=
  (.seq (.reg [⟨some 4, .assign (.const (.int .i64 0)), none, false⟩])
  (.seq (.reg [⟨some 6, .move (.tmp 0), none, false⟩,
   ⟨some 7, .move (.tmp 1), none, false⟩,
   ⟨some 8, .index t_string (.tmp 6) (.tmp 7), none, false⟩,
   ⟨some 5, .assign (.tmp 8), none, false⟩])
  (.seq (.block 0 (.seq (.reg [⟨some 10, .move (.tmp 5), none, false⟩,
    ⟨some 11, .binOp .lss t_uint8 (.tmp 10) (.const (.int .u8 128)) t_uint8, none, false⟩,
    ⟨some 9, .assign (.tmp 11), none, false⟩])
   (.cond (.tmp 9)
    (.seq (.reg [⟨some 4, .assign (.const (.int .i64 1)), none, false⟩])
    .ret)
    (.seq (.reg [⟨some 13, .move (.tmp 5), none, false⟩,
     ⟨some 14, .binOp .geq t_uint8 (.tmp 13) (.const (.int .u8 194)) t_uint8, none, false⟩,
     ⟨some 15, .move (.tmp 14), none, false⟩,
     ⟨some 16, .move (.tmp 5), some (some 15, true), false⟩,
     ⟨some 17, .binOp .lss t_uint8 (.tmp 16) (.const (.int .u8 224)) t_uint8, some (some 15, true), false⟩,
     ⟨some 18, .pick (.tmp 15) (.tmp 17) (.const (.bool false)), none, false⟩,
     ⟨some 19, .move (.tmp 18), none, false⟩,
     ⟨some 20, .move (.tmp 0), some (some 19, true), false⟩,
     ⟨some 21, .move (.tmp 1), some (some 19, true), false⟩,
     ⟨some 22, .binOp .add t_int (.tmp 21) (.const (.int .i64 1)) t_int, some (some 19, true), false⟩,
     ⟨some 23, .call ⟨.value (.func f_louperef02_cont), ⟨[(.tmp 20), (.tmp 22)]⟩, ⟨[t_string, t_int]⟩⟩, some (some 19, true), false⟩,
     ⟨some 24, .pick (.tmp 19) (.tmp 23) (.const (.bool false)), none, false⟩,
     ⟨some 12, .assign (.tmp 24), none, false⟩])
    (.cond (.tmp 12)
     (.seq (.reg [⟨some 4, .assign (.const (.int .i64 2)), none, false⟩])
     .ret)
     (.seq (.reg [⟨some 26, .move (.tmp 5), none, false⟩,
      ⟨some 27, .binOp .geq t_uint8 (.tmp 26) (.const (.int .u8 224)) t_uint8, none, false⟩,
      ⟨some 28, .move (.tmp 27), none, false⟩,
      ⟨some 29, .move (.tmp 5), some (some 28, true), false⟩,
      ⟨some 30, .binOp .lss t_uint8 (.tmp 29) (.const (.int .u8 240)) t_uint8, some (some 28, true), false⟩,
      ⟨some 31, .pick (.tmp 28) (.tmp 30) (.const (.bool false)), none, false⟩,
      ⟨some 32, .move (.tmp 31), none, false⟩,
      ⟨some 33, .move (.tmp 0), some (some 32, true), false⟩,
      ⟨some 34, .move (.tmp 1), some (some 32, true), false⟩,
      ⟨some 35, .binOp .add t_int (.tmp 34) (.const (.int .i64 1)) t_int, some (some 32, true), false⟩,
      ⟨some 36, .call ⟨.value (.func f_louperef02_cont), ⟨[(.tmp 33), (.tmp 35)]⟩, ⟨[t_string, t_int]⟩⟩, some (some 32, true), false⟩,
      ⟨some 37, .pick (.tmp 32) (.tmp 36) (.const (.bool false)), none, false⟩,
      ⟨some 38, .move (.tmp 37), none, false⟩,
      ⟨some 39, .move (.tmp 0), some (some 38, true), false⟩,
      ⟨some 40, .move (.tmp 1), some (some 38, true), false⟩,
      ⟨some 41, .binOp .add t_int (.tmp 40) (.const (.int .i64 2)) t_int, some (some 38, true), false⟩,
      ⟨some 42, .call ⟨.value (.func f_louperef02_cont), ⟨[(.tmp 39), (.tmp 41)]⟩, ⟨[t_string, t_int]⟩⟩, some (some 38, true), false⟩,
      ⟨some 43, .pick (.tmp 38) (.tmp 42) (.const (.bool false)), none, false⟩,
      ⟨some 25, .assign (.tmp 43), none, false⟩])
     (.cond (.tmp 25)
      (.seq (.seq (.reg [⟨some 44, .move (.tmp 5), none, false⟩,
       ⟨some 45, .binOp .eql t_uint8 (.tmp 44) (.const (.int .u8 224)) t_uint8, none, false⟩,
       ⟨some 46, .move (.tmp 45), none, false⟩,
       ⟨some 47, .move (.tmp 0), some (some 46, true), false⟩,
       ⟨some 48, .move (.tmp 1), some (some 46, true), false⟩,
       ⟨some 49, .binOp .add t_int (.tmp 48) (.const (.int .i64 1)) t_int, some (some 46, true), false⟩,
       ⟨some 50, .index t_string (.tmp 47) (.tmp 49), some (some 46, true), false⟩,
       ⟨some 51, .binOp .lss t_uint8 (.tmp 50) (.const (.int .u8 160)) t_uint8, some (some 46, true), false⟩,
       ⟨some 52, .pick (.tmp 46) (.tmp 51) (.const (.bool false)), none, false⟩,
       ⟨some 53, .move (.tmp 52), none, false⟩,
       ⟨some 54, .move (.tmp 5), some (some 53, false), false⟩,
       ⟨some 55, .binOp .eql t_uint8 (.tmp 54) (.const (.int .u8 237)) t_uint8, some (some 53, false), false⟩,
       ⟨some 56, .move (.tmp 55), some (some 53, false), false⟩,
       ⟨some 57, .move (.tmp 0), some (some 56, true), false⟩,
       ⟨some 58, .move (.tmp 1), some (some 56, true), false⟩,
       ⟨some 59, .binOp .add t_int (.tmp 58) (.const (.int .i64 1)) t_int, some (some 56, true), false⟩,
       ⟨some 60, .index t_string (.tmp 57) (.tmp 59), some (some 56, true), false⟩,
       ⟨some 61, .binOp .geq t_uint8 (.tmp 60) (.const (.int .u8 160)) t_uint8, some (some 56, true), false⟩,
       ⟨some 62, .pick (.tmp 56) (.tmp 61) (.const (.bool false)), some (some 53, false), false⟩,
       ⟨some 63, .pick (.tmp 53) (.const (.bool true)) (.tmp 62), none, false⟩])
      (.cond (.tmp 63)
       (.seq (.reg [⟨some 4, .assign (.const (.int .i64 0)), none, false⟩])
       .ret)
       .skip))
      (.seq (.reg [⟨some 4, .assign (.const (.int .i64 3)), none, false⟩])
      .ret))
      (.seq (.reg [⟨some 65, .move (.tmp 5), none, false⟩,
       ⟨some 66, .binOp .geq t_uint8 (.tmp 65) (.const (.int .u8 240)) t_uint8, none, false⟩,
       ⟨some 67, .move (.tmp 66), none, false⟩,
       ⟨some 68, .move (.tmp 5), some (some 67, true), false⟩,
       ⟨some 69, .binOp .lss t_uint8 (.tmp 68) (.const (.int .u8 245)) t_uint8, some (some 67, true), false⟩,
       ⟨some 70, .pick (.tmp 67) (.tmp 69) (.const (.bool false)), none, false⟩,
       ⟨some 71, .move (.tmp 70), none, false⟩,
       ⟨some 72, .move (.tmp 0), some (some 71, true), false⟩,
       ⟨some 73, .move (.tmp 1), some (some 71, true), false⟩,
       ⟨some 74, .binOp .add t_int (.tmp 73) (.const (.int .i64 1)) t_int, some (some 71, true), false⟩,
       ⟨some 75, .call ⟨.value (.func f_louperef02_cont), ⟨[(.tmp 72), (.tmp 74)]⟩, ⟨[t_string, t_int]⟩⟩, some (some 71, true), false⟩,
       ⟨some 76, .pick (.tmp 71) (.tmp 75) (.const (.bool false)), none, false⟩,
       ⟨some 77, .move (.tmp 76), none, false⟩,
       ⟨some 78, .move (.tmp 0), some (some 77, true), false⟩,
       ⟨some 79, .move (.tmp 1), some (some 77, true), false⟩,
       ⟨some 80, .binOp .add t_int (.tmp 79) (.const (.int .i64 2)) t_int, some (some 77, true), false⟩,
       ⟨some 81, .call ⟨.value (.func f_louperef02_cont), ⟨[(.tmp 78), (.tmp 80)]⟩, ⟨[t_string, t_int]⟩⟩, some (some 77, true), false⟩,
       ⟨some 82, .pick (.tmp 77) (.tmp 81) (.const (.bool false)), none, false⟩,
       ⟨some 83, .move (.tmp 82), none, false⟩,
       ⟨some 84, .move (.tmp 0), some (some 83, true), false⟩,
       ⟨some 85, .move (.tmp 1), some (some 83, true), false⟩,
       ⟨some 86, .binOp .add t_int (.tmp 85) (.const (.int .i64 3)) t_int, some (some 83, true), false⟩,
       ⟨some 87, .call ⟨.value (.func f_louperef02_cont), ⟨[(.tmp 84), (.tmp 86)]⟩, ⟨[t_string, t_int]⟩⟩, some (some 83, true), false⟩,
       ⟨some 88, .pick (.tmp 83) (.tmp 87) (.const (.bool false)), none, false⟩,
       ⟨some 64, .assign (.tmp 88), none, false⟩])
      (.cond (.tmp 64)
       (.seq (.seq (.reg [⟨some 89, .move (.tmp 5), none, false⟩,
        ⟨some 90, .binOp .eql t_uint8 (.tmp 89) (.const (.int .u8 240)) t_uint8, none, false⟩,
        ⟨some 91, .move (.tmp 90), none, false⟩,
        ⟨some 92, .move (.tmp 0), some (some 91, true), false⟩,
        ⟨some 93, .move (.tmp 1), some (some 91, true), false⟩,
        ⟨some 94, .binOp .add t_int (.tmp 93) (.const (.int .i64 1)) t_int, some (some 91, true), false⟩,
        ⟨some 95, .index t_string (.tmp 92) (.tmp 94), some (some 91, true), false⟩,
        ⟨some 96, .binOp .lss t_uint8 (.tmp 95) (.const (.int .u8 144)) t_uint8, some (some 91, true), false⟩,
        ⟨some 97, .pick (.tmp 91) (.tmp 96) (.const (.bool false)), none, false⟩,
        ⟨some 98, .move (.tmp 97), none, false⟩,
        ⟨some 99, .move (.tmp 5), some (some 98, false), false⟩,
        ⟨some 100, .binOp .eql t_uint8 (.tmp 99) (.const (.int .u8 244)) t_uint8, some (some 98, false), false⟩,
        ⟨some 101, .move (.tmp 100), some (some 98, false), false⟩,
        ⟨some 102, .move (.tmp 0), some (some 101, true), false⟩,
        ⟨some 103, .move (.tmp 1), some (some 101, true), false⟩,
        ⟨some 104, .binOp .add t_int (.tmp 103) (.const (.int .i64 1)) t_int, some (some 101, true), false⟩,
        ⟨some 105, .index t_string (.tmp 102) (.tmp 104), some (some 101, true), false⟩,
        ⟨some 106, .binOp .geq t_uint8 (.tmp 105) (.const (.int .u8 144)) t_uint8, some (some 101, true), false⟩,
        ⟨some 107, .pick (.tmp 101) (.tmp 106) (.const (.bool false)), some (some 98, false), false⟩,
        ⟨some 108, .pick (.tmp 98) (.const (.bool true)) (.tmp 107), none, false⟩])
       (.cond (.tmp 108)
        (.seq (.reg [⟨some 4, .assign (.const (.int .i64 0)), none, false⟩])
        .ret)
        .skip))
       (.seq (.reg [⟨some 4, .assign (.const (.int .i64 4)), none, false⟩])
       .ret))
       .skip)))))))))
  (.seq (.reg [⟨some 4, .assign (.const (.int .i64 0)), none, false⟩])
  .ret))))
theorem k_louperef02_Rune : FnOk Try.prog f_louperef02_Rune 109 [.tmp 4] c_louperef02_Rune := ⟨_, _, Try.func68, by kernel_rfl, rfl, Try.ntmps68, rfl, by kernel_rfl⟩

def c_louperef02_Next : LC :=
  (.seq (.reg [⟨some 4, .assign (.const (.int .i64 0)), none, false⟩])
  (.seq (.reg [⟨some 5, .assign (.const (.int .i64 1)), none, false⟩])
  (.seq (.block 0 (.loop [true, true, false, false, false, true, false, false, false, false, false, false, false, false, false, false, false, false, false, false, false, false, false, false, false, false, false, false, false, false, false, false, false, false, false, false, false, false, false, false, false] none
   (.seq (.seq (.reg [⟨some 6, .move (.tmp 5), none, false⟩,
     ⟨some 7, .binOp .gtr t_int (.tmp 6) (.const (.int .i64 0)) t_int, none, false⟩])
    (.cond (.tmp 7)
     .skip
     (.exit 0)))
    (.block 1 (.seq (.seq (.reg [⟨some 8, .move (.tmp 1), none, false⟩,
      ⟨some 9, .move (.tmp 0), none, false⟩,
      ⟨some 10, .call ⟨.builtin .len, ⟨[(.tmp 9)]⟩, ⟨[t_api_Val]⟩⟩, none, false⟩,
      ⟨some 11, .binOp .geq t_int (.tmp 8) (.tmp 10) t_int, none, false⟩,
      ⟨some 12, .move (.tmp 11), none, false⟩,
      ⟨some 13, .move (.tmp 0), some (some 12, false), false⟩,
      ⟨some 14, .move (.tmp 1), some (some 12, false), false⟩,
      ⟨some 15, .indexAddr t_api_Val (.tmp 13) (.tmp 14), some (some 12, false), false⟩,
      ⟨some 16, .fieldAddr t_api_Node (.tmp 15) 1, some (some 12, false), false⟩,
      ⟨some 17, .load t_int (.tmp 16), some (some 12, false), false⟩,
      ⟨some 18, .binOp .lss t_int (.tmp 17) (.const (.int .i64 0)) t_int, some (some 12, false), false⟩,
      ⟨some 19, .pick (.tmp 12) (.const (.bool true)) (.tmp 18), none, false⟩,
      ⟨some 20, .move (.tmp 19), none, false⟩,
      ⟨some 21, .move (.tmp 0), some (some 20, false), false⟩,
      ⟨some 22, .move (.tmp 1), some (some 20, false), false⟩,
      ⟨some 23, .indexAddr t_api_Val (.tmp 21) (.tmp 22), some (some 20, false), false⟩,
      ⟨some 24, .fieldAddr t_api_Node (.tmp 23) 1, some (some 20, false), false⟩,
      ⟨some 25, .load t_int (.tmp 24), some (some 20, false), false⟩,
      ⟨some 26, .move (.tmp 0), some (some 20, false), false⟩,
      ⟨some 27, .call ⟨.builtin .len, ⟨[(.tmp 26)]⟩, ⟨[t_api_Val]⟩⟩, some (some 20, false), false⟩,
      ⟨some 28, .binOp .gtr t_int (.tmp 25) (.tmp 27) t_int, some (some 20, false), false⟩,
      ⟨some 29, .pick (.tmp 20) (.const (.bool true)) (.tmp 28), none, false⟩])
     (.cond (.tmp 29)
      (.seq (.reg [⟨some 4, .assign (.const (.int .i64 (-1))), none, false⟩])
      .ret)
      .skip))
     (.seq (.reg [⟨some 30, .move (.tmp 5), none, false⟩,
      ⟨some 31, .binOp .sub t_int (.tmp 30) (.const (.int .i64 1)) t_int, none, false⟩,
      ⟨some 32, .move (.tmp 0), none, false⟩,
      ⟨some 33, .move (.tmp 1), none, false⟩,
      ⟨some 34, .indexAddr t_api_Val (.tmp 32) (.tmp 33), none, false⟩,
      ⟨some 35, .fieldAddr t_api_Node (.tmp 34) 1, none, false⟩,
      ⟨some 36, .load t_int (.tmp 35), none, false⟩,
      ⟨some 37, .binOp .add t_int (.tmp 31) (.tmp 36) t_int, none, false⟩,
      ⟨some 5, .assign (.tmp 37), none, false⟩])
     (.reg [⟨some 38, .move (.tmp 1), none, false⟩,
      ⟨some 39, .binOp .add t_int (.tmp 38) (.const (.int .i64 1)) t_int, none, false⟩,
      ⟨some 1, .assign (.tmp 39), none, false⟩])))))))
  (.seq (.reg [⟨some 40, .move (.tmp 1), none, false⟩,
   ⟨some 4, .assign (.tmp 40), none, false⟩])
  .ret))))
theorem k_louperef02_Next : FnOk Try.prog f_louperef02_Next 41 [.tmp 4] c_louperef02_Next := ⟨_, _, Try.func86, by kernel_rfl, rfl, Try.ntmps86, rfl, by kernel_rfl⟩

def c_louperef02_plain : LC :=
  (.seq (.reg [⟨some 1, .box t_api_Node (.tmp 0), none, false⟩,
   ⟨some 2, .assign (.const (.bool false)), none, false⟩])
  (.seq (.reg [⟨some 3, .fieldAddr t_api_Node (.tmp 1) 2, none, false⟩,
   ⟨none, .store t_string (.tmp 3) (.const (.string ⟨⟨[]⟩⟩)), none, false⟩])
  (.seq (.seq (.reg [⟨some 4, .fieldAddr t_api_Node (.tmp 1) 0, none, false⟩,
   ⟨some 5, .load t_int (.tmp 4), none, false⟩])
  (.block 0 (.seq (.seq (.reg [⟨some 7, .binOp .eql t_int (.tmp 5) (.const (.int .i64 0)) t_int, none, false⟩,
    ⟨some 6, .assign (.tmp 7), none, false⟩])
   (.cond (.tmp 6)
    .skip
    (.seq (.reg [⟨some 8, .binOp .eql t_int (.tmp 5) (.const (.int .i64 1)) t_int, none, false⟩,
     ⟨some 6, .assign (.tmp 8), none, false⟩])
    (.cond (.tmp 6)
     .skip
     (.reg [⟨some 9, .binOp .eql t_int (.tmp 5) (.const (.int .i64 2)) t_int, none, false⟩,
      ⟨some 6, .assign (.tmp 9), none, false⟩])))))
   (.cond (.tmp 6)
    (.seq (.reg [⟨some 10, .load t_api_Node (.tmp 1), none, false⟩,
     ⟨some 11, .fieldAddr t_api_Node (.tmp 1) 0, none, false⟩,
     ⟨some 12, .load t_int (.tmp 11), none, false⟩,
     ⟨some 13, .build t_api_Node ⟨[(0, (.tmp 12))]⟩, none, false⟩,
     ⟨some 14, .binOp .eql t_api_Node (.tmp 10) (.tmp 13) t_api_Node, none, false⟩,
     ⟨some 2, .assign (.tmp 14), none, false⟩])
    .ret)
    (.seq (.reg [⟨some 16, .binOp .eql t_int (.tmp 5) (.const (.int .i64 3)) t_int, none, false⟩,
     ⟨some 15, .assign (.tmp 16), none, false⟩])
    (.cond (.tmp 15)
     (.seq (.reg [⟨some 17, .load t_api_Node (.tmp 1), none, false⟩,
      ⟨some 18, .call ⟨.value (.func f_louperef01_Right), ⟨[(.tmp 17)]⟩, ⟨[t_api_Node]⟩⟩, none, false⟩,
      ⟨some 2, .assign (.tmp 18), none, false⟩])
     .ret)
     (.seq (.reg [⟨some 20, .binOp .eql t_int (.tmp 5) (.const (.int .i64 4)) t_int, none, false⟩,
      ⟨some 19, .assign (.tmp 20), none, false⟩])
     (.cond (.tmp 19)
      (.seq (.reg [⟨some 21, .fieldAddr t_api_Node (.tmp 1) 3, none, false⟩,
       ⟨some 22, .load t_string (.tmp 21), none, false⟩,
       ⟨some 23, .call ⟨.value (.func f_louperef02_Utf), ⟨[(.tmp 22)]⟩, ⟨[t_string]⟩⟩, none, false⟩,
       ⟨some 24, .move (.tmp 23), none, false⟩,
       ⟨some 25, .load t_api_Node (.tmp 1), some (some 24, true), false⟩,
       ⟨some 26, .fieldAddr t_api_Node (.tmp 1) 0, some (some 24, true), false⟩,
       ⟨some 27, .load t_int (.tmp 26), some (some 24, true), false⟩,
       ⟨some 28, .fieldAddr t_api_Node (.tmp 1) 3, some (some 24, true), false⟩,
       ⟨some 29, .load t_string (.tmp 28), some (some 24, true), false⟩,
       ⟨some 30, .build t_api_Node ⟨[(0, (.tmp 27)), (3, (.tmp 29))]⟩, some (some 24, true), false⟩,
       ⟨some 31, .binOp .eql t_api_Node (.tmp 25) (.tmp 30) t_api_Node, some (some 24, true), false⟩,
       ⟨some 32, .pick (.tmp 24) (.tmp 31) (.const (.bool false)), none, false⟩,
       ⟨some 2, .assign (.tmp 32), none, false⟩])
      .ret)
      (.seq (.seq (.reg [⟨some 34, .binOp .eql t_int (.tmp 5) (.const (.int .i64 5)) t_int, none, false⟩,
       ⟨some 33, .assign (.tmp 34), none, false⟩])
      (.cond (.tmp 33)
       .skip
       (.reg [⟨some 35, .binOp .eql t_int (.tmp 5) (.const (.int .i64 6)) t_int, none, false⟩,
        ⟨some 33, .assign (.tmp 35), none, false⟩])))
      (.cond (.tmp 33)
       (.seq (.reg [⟨some 36, .fieldAddr t_api_Node (.tmp 1) 1, none, false⟩,
        ⟨some 37, .load t_int (.tmp 36), none, false⟩,
        ⟨some 38, .binOp .geq t_int (.tmp 37) (.const (.int .i64 0)) t_int, none, false⟩,
        ⟨some 39, .move (.tmp 38), none, false⟩,
        ⟨some 40, .load t_api_Node (.tmp 1), some (some 39, true), false⟩,
        ⟨some 41, .fieldAddr t_api_Node (.tmp 1) 0, some (some 39, true), false⟩,
        ⟨some 42, .load t_int (.tmp 41), some (some 39, true), false⟩,
        ⟨some 43, .fieldAddr t_api_Node (.tmp 1) 1, some (some 39, true), false⟩,
        ⟨some 44, .load t_int (.tmp 43), some (some 39, true), false⟩,
        ⟨some 45, .build t_api_Node ⟨[(0, (.tmp 42)), (1, (.tmp 44))]⟩, some (some 39, true), false⟩,
        ⟨some 46, .binOp .eql t_api_Node (.tmp 40) (.tmp 45) t_api_Node, some (some 39, true), false⟩,
        ⟨some 47, .pick (.tmp 39) (.tmp 46) (.const (.bool false)), none, false⟩,
        ⟨some 2, .assign (.tmp 47), none, false⟩])
       .ret)
       .skip))))))))))
  (.seq (.reg [⟨some 2, .assign (.const (.bool false)), none, false⟩])
  .ret))))
theorem k_louperef02_plain : FnOk Try.prog f_louperef02_plain 48 [.tmp 2] c_louperef02_plain := ⟨_, _, Try.func87, by kernel_rfl, rfl, Try.ntmps87, rfl, by kernel_rfl⟩

def c_louperef02_rising : LC :=
  (.seq (.reg [⟨some 4, .assign (.const (.bool false)), none, false⟩])
  (.seq (.reg [⟨some 8, .move (.tmp 1), none, false⟩,
   ⟨some 9, .binOp .add t_int (.tmp 8) (.const (.int .i64 1)) t_int, none, false⟩,
   ⟨some 5, .assign (.tmp 9), none, false⟩])
  (.seq (.seq (.reg [⟨some 6, .assign (.const (.int .i64 0)), none, false⟩])
  (.block 0 (.loop [true, true, false, false, false, true, true, false, false, false, false, false, false, false, false, false, false, false, false, false, false, false, false, false, false, false, false, false, false, false, false, false, false, false, false, false, false, false, false, false, false, false, false, false, false, false, false, false, false, false, false, false, false, false, false, false, false, false, false, false, false, false, false, false, false, false, false, false, false, false, false, false, false, false, false] none
   (.seq (.seq (.reg [⟨some 10, .move (.tmp 6), none, false⟩,
     ⟨some 11, .move (.tmp 0), none, false⟩,
     ⟨some 12, .move (.tmp 1), none, false⟩,
     ⟨some 13, .indexAddr t_api_Val (.tmp 11) (.tmp 12), none, false⟩,
     ⟨some 14, .fieldAddr t_api_Node (.tmp 13) 1, none, false⟩,
     ⟨some 15, .load t_int (.tmp 14), none, false⟩,
     ⟨some 16, .binOp .lss t_int (.tmp 10) (.tmp 15) t_int, none, false⟩])
    (.cond (.tmp 16)
     .skip
     (.exit 0)))
    (.seq (.block 1 (.seq (.seq (.reg [⟨some 19, .move (.tmp 0), none, false⟩,
      ⟨some 20, .move (.tmp 1), none, false⟩,
      ⟨some 21, .indexAddr t_api_Val (.tmp 19) (.tmp 20), none, false⟩,
      ⟨some 22, .fieldAddr t_api_Node (.tmp 21) 0, none, false⟩,
      ⟨some 23, .load t_int (.tmp 22), none, false⟩,
      ⟨some 24, .binOp .eql t_int (.tmp 23) (.const (.int .i64 5)) t_int, none, false⟩,
      ⟨some 25, .move (.tmp 24), none, false⟩,
      ⟨some 26, .move (.tmp 0), some (some 25, true), false⟩,
      ⟨some 27, .move (.tmp 5), some (some 25, true), false⟩,
      ⟨some 28, .indexAddr t_api_Val (.tmp 26) (.tmp 27), some (some 25, true), false⟩,
      ⟨some 29, .fieldAddr t_api_Node (.tmp 28) 2, some (some 25, true), false⟩,
      ⟨some 30, .load t_string (.tmp 29), some (some 25, true), false⟩,
      ⟨some 31, .binOp .neq t_string (.tmp 30) (.const (.string ⟨⟨[]⟩⟩)) t_string, some (some 25, true), false⟩,
      ⟨some 32, .pick (.tmp 25) (.tmp 31) (.const (.bool false)), none, false⟩,
      ⟨some 33, .move (.tmp 32), none, false⟩,
      ⟨some 34, .move (.tmp 0), some (some 33, false), false⟩,
      ⟨some 35, .move (.tmp 5), some (some 33, false), false⟩,
      ⟨some 36, .indexAddr t_api_Val (.tmp 34) (.tmp 35), some (some 33, false), false⟩,
      ⟨some 37, .fieldAddr t_api_Node (.tmp 36) 2, some (some 33, false), false⟩,
      ⟨some 38, .load t_string (.tmp 37), some (some 33, false), false⟩,
      ⟨some 39, .call ⟨.value (.func f_louperef02_Utf), ⟨[(.tmp 38)]⟩, ⟨[t_string]⟩⟩, some (some 33, false), false⟩,
      ⟨some 40, .unOp .not t_bool (.tmp 39), some (some 33, false), false⟩,
      ⟨some 41, .pick (.tmp 33) (.const (.bool true)) (.tmp 40), none, false⟩])
     (.cond (.tmp 41)
      (.seq (.reg [⟨some 4, .assign (.const (.bool false)), none, false⟩])
      .ret)
      .skip))
     (.seq (.reg [⟨some 42, .move (.tmp 0), none, false⟩,
      ⟨some 43, .move (.tmp 5), none, false⟩,
      ⟨some 44, .call ⟨.value (.func f_louperef02_Next), ⟨[(.tmp 42), (.tmp 43)]⟩, ⟨[t_api_Val, t_int]⟩⟩, none, false⟩,
      ⟨some 7, .assign (.tmp 44), none, false⟩])
     (.seq (.seq (.draw [⟨some 45, .move (.tmp 0), none, false⟩,
      ⟨some 46, .move (.tmp 1), none, false⟩,
      ⟨some 47, .indexAddr t_api_Val (.tmp 45) (.tmp 46), none, false⟩,
      ⟨some 48, .fieldAddr t_api_Node (.tmp 47) 0, none, false⟩,
      ⟨some 49, .load t_int (.tmp 48), none, false⟩,
      ⟨some 50, .binOp .eql t_int (.tmp 49) (.const (.int .i64 6)) t_int, none, false⟩,
      ⟨some 51, .move (.tmp 50), none, false⟩,
      ⟨some 52, .move (.tmp 6), some (some 51, true), false⟩,
      ⟨some 53, .binOp .add t_int (.tmp 52) (.const (.int .i64 1)) t_int, some (some 51, true), false⟩,
      ⟨some 54, .move (.tmp 0), some (some 51, true), false⟩,
      ⟨some 55, .move (.tmp 1), some (some 51, true), false⟩,
      ⟨some 56, .indexAddr t_api_Val (.tmp 54) (.tmp 55), some (some 51, true), false⟩,
      ⟨some 57, .fieldAddr t_api_Node (.tmp 56) 1, some (some 51, true), false⟩,
      ⟨some 58, .load t_int (.tmp 57), some (some 51, true), false⟩,
      ⟨some 59, .binOp .lss t_int (.tmp 53) (.tmp 58) t_int, some (some 51, true), false⟩,
      ⟨some 60, .pick (.tmp 51) (.tmp 59) (.const (.bool false)), none, false⟩,
      ⟨some 61, .move (.tmp 60), none, false⟩,
      ⟨some 62, .move (.tmp 0), some (some 61, true), false⟩,
      ⟨some 63, .move (.tmp 5), some (some 61, true), false⟩,
      ⟨some 64, .indexAddr t_api_Val (.tmp 62) (.tmp 63), some (some 61, true), false⟩,
      ⟨some 65, .fieldAddr t_api_Node (.tmp 64) 2, some (some 61, true), false⟩,
      ⟨some 66, .load t_string (.tmp 65), some (some 61, true), false⟩,
      ⟨some 67, .move (.tmp 0), some (some 61, true), false⟩,
      ⟨some 68, .move (.tmp 7), some (some 61, true), false⟩,
      ⟨some 69, .indexAddr t_api_Val (.tmp 67) (.tmp 68), some (some 61, true), false⟩,
      ⟨some 70, .fieldAddr t_api_Node (.tmp 69) 2, some (some 61, true), false⟩,
      ⟨some 71, .load t_string (.tmp 70), some (some 61, true), false⟩,
      ⟨some 72, .binOp .geq t_string (.tmp 66) (.tmp 71) t_string, some (some 61, true), false⟩,
      ⟨some 73, .pick (.tmp 61) (.tmp 72) (.const (.bool false)), none, false⟩]
     [0, 1, 0, 0, 0, 0, 0, 0, 0, 384, 896, 384, 384, 384, 0, 0, 0, 0, 131072, 0, 0, 0, 4063232, 8257536, 4063232, 4063232, 4063232, 0, 0])
     (.cond (.tmp 73)
      (.seq (.reg [⟨some 4, .assign (.const (.bool false)), none, false⟩])
      .ret)
      .skip))
     (.reg [⟨some 74, .move (.tmp 7), none, false⟩,
      ⟨some 5, .assign (.tmp 74), none, false⟩])))))
    (.reg [⟨some 17, .move (.tmp 6), none, false⟩,
     ⟨some 18, .binOp .add t_int (.tmp 17) (.const (.int .i64 1)) t_int, none, false⟩,
     ⟨some 6, .assign (.tmp 18), none, false⟩]))))))
  (.seq (.reg [⟨some 4, .assign (.const (.bool true)), none, false⟩])
  .ret))))
theorem k_louperef02_rising : FnOk Try.prog f_louperef02_rising 75 [.tmp 4] c_louperef02_rising := ⟨_, _, Try.func88, by kernel_rfl, rfl, Try.ntmps88, rfl, by kernel_rfl⟩

def c_cmp_isNaN_int_ : LC :=
  (.seq (.reg [⟨some 2, .assign (.const (.bool false)), none, false⟩])
  (.seq (.reg [⟨some 3, .move (.tmp 0), none, false⟩,
   ⟨some 4, .move (.tmp 0), none, false⟩,
   ⟨some 5, .binOp .neq t_int (.tmp 3) (.tmp 4) t_int, none, false⟩,
   ⟨some 2, .assign (.tmp 5), none, false⟩])
  .ret))
theorem k_cmp_isNaN_int_ : FnOk Try.prog f_cmp_isNaN_int_ 6 [.tmp 2] c_cmp_isNaN_int_ := ⟨_, _, Try.func89, by kernel_rfl, rfl, Try.ntmps89, rfl, by kernel_rfl⟩

def c_num_size : LC :=
  (.seq (.reg [⟨some 2, .box t_api_Node (.tmp 0), none, false⟩,
   ⟨some 3, .box t_api_Node (.tmp 1), none, false⟩,
   ⟨some 4, .assign (.const (.int .i64 0)), none, false⟩])
  (.seq (.seq (.weak (.reg [⟨some 6, .fieldAddr t_api_Node (.tmp 2) 3, none, false⟩,
   ⟨some 7, .load t_string (.tmp 6), none, false⟩,
   ⟨some 8, .binOp .eql t_string (.tmp 7) (.const (.string ⟨⟨[]⟩⟩)) t_string, none, false⟩,
   ⟨some 9, .move (.tmp 8), none, false⟩,
   ⟨some 10, .fieldAddr t_api_Node (.tmp 3) 3, some (some 9, false), false⟩,
   ⟨some 11, .load t_string (.tmp 10), some (some 9, false), false⟩,
   ⟨some 12, .binOp .eql t_string (.tmp 11) (.const (.string ⟨⟨[]⟩⟩)) t_string, some (some 9, false), false⟩,
   ⟨some 13, .pick (.tmp 9) (.const (.bool true)) (.tmp 12), none, false⟩]))
  (.cond (.tmp 13)
   (.seq (.reg [⟨some 14, .fieldAddr t_api_Node (.tmp 2) 3, none, false⟩,
    ⟨some 15, .load t_string (.tmp 14), none, false⟩,
    ⟨some 16, .call ⟨.builtin .len, ⟨[(.tmp 15)]⟩, ⟨[t_string]⟩⟩, none, false⟩,
    ⟨some 17, .fieldAddr t_api_Node (.tmp 3) 3, none, false⟩,
    ⟨some 18, .load t_string (.tmp 17), none, false⟩,
    ⟨some 19, .call ⟨.builtin .len, ⟨[(.tmp 18)]⟩, ⟨[t_string]⟩⟩, none, false⟩,
    ⟨some 20, .call ⟨.value (.func f_cmp_Compare_int_), ⟨[(.tmp 16), (.tmp 19)]⟩, ⟨[t_int, t_int]⟩⟩, none, false⟩,
    ⟨some 4, .assign (.tmp 20), none, false⟩])
   .ret)
   .skip))
  (.seq (.seq (.reg [⟨some 21, .fieldAddr t_api_Node (.tmp 2) 3, none, false⟩,
   ⟨some 22, .load t_string (.tmp 21), none, false⟩,
   ⟨some 23, .call ⟨.builtin .len, ⟨[(.tmp 22)]⟩, ⟨[t_string]⟩⟩, none, false⟩,
   ⟨some 24, .fieldAddr t_api_Node (.tmp 2) 5, none, false⟩,
   ⟨some 25, .load t_int (.tmp 24), none, false⟩,
   ⟨some 26, .binOp .add t_int (.tmp 23) (.tmp 25) t_int, none, false⟩,
   ⟨some 27, .fieldAddr t_api_Node (.tmp 3) 3, none, false⟩,
   ⟨some 28, .load t_string (.tmp 27), none, false⟩,
   ⟨some 29, .call ⟨.builtin .len, ⟨[(.tmp 28)]⟩, ⟨[t_string]⟩⟩, none, false⟩,
   ⟨some 30, .fieldAddr t_api_Node (.tmp 3) 5, none, false⟩,
   ⟨some 31, .load t_int (.tmp 30), none, false⟩,
   ⟨some 32, .binOp .add t_int (.tmp 29) (.tmp 31) t_int, none, false⟩,
   ⟨some 33, .call ⟨.value (.func f_cmp_Compare_int_), ⟨[(.tmp 26), (.tmp 32)]⟩, ⟨[t_int, t_int]⟩⟩, none, false⟩,
   ⟨some 5, .assign (.tmp 33), none, false⟩])
  (.seq (.reg [⟨some 34, .move (.tmp 5), none, false⟩,
   ⟨some 35, .binOp .neq t_int (.tmp 34) (.const (.int .i64 0)) t_int, none, false⟩])
  (.cond (.tmp 35)
   (.seq (.reg [⟨some 36, .move (.tmp 5), none, false⟩,
    ⟨some 4, .assign (.tmp 36), none, false⟩])
   .ret)
   .skip)))
  (.seq (.reg [⟨some 37, .fieldAddr t_api_Node (.tmp 2) 3, none, false⟩,
   ⟨some 38, .load t_string (.tmp 37), none, false⟩,
   ⟨some 39, .fieldAddr t_api_Node (.tmp 3) 3, none, false⟩,
   ⟨some 40, .load t_string (.tmp 39), none, false⟩,
   ⟨some 41, .call ⟨.value (.func f_cmp_Compare_string_), ⟨[(.tmp 38), (.tmp 40)]⟩, ⟨[t_string, t_string]⟩⟩, none, false⟩,
   ⟨some 4, .assign (.tmp 41), none, false⟩])
  .ret))))
theorem k_num_size : FnOk Try.prog f_num_size 42 [.tmp 4] c_num_size := ⟨_, _, Try.func90, by kernel_rfl, rfl, Try.ntmps90, rfl, by kernel_rfl⟩

def c_cmp_isNaN_string_ : LC :=
  (.seq (.reg [⟨some 2, .assign (.const (.bool false)), none, false⟩])
  (.seq (.reg [⟨some 3, .move (.tmp 0), none, false⟩,
   ⟨some 4, .move (.tmp 0), none, false⟩,
   ⟨some 5, .binOp .neq t_string (.tmp 3) (.tmp 4) t_string, none, false⟩,
   ⟨some 2, .assign (.tmp 5), none, false⟩])
  .ret))
theorem k_cmp_isNaN_string_ : FnOk Try.prog f_cmp_isNaN_string_ 6 [.tmp 2] c_cmp_isNaN_string_ := ⟨_, _, Try.func91, by kernel_rfl, rfl, Try.ntmps91, rfl, by kernel_rfl⟩

def c_val_each : LC :=
  (.seq (.reg [⟨some 1, .box t_api_Val (.tmp 0), none, false⟩,
   ⟨some 2, .assign (.const (.nilFunc)), none, false⟩])
  (.seq (.reg [⟨some 3, .makeFunc (.func f_val_each_1) ⟨[]⟩ ⟨[(.tmp 1)]⟩, none, false⟩,
   ⟨some 2, .assign (.tmp 3), none, false⟩])
  .ret))
theorem k_val_each : FnOk Try.prog f_val_each 4 [.tmp 2] c_val_each := ⟨_, _, Try.func92, by kernel_rfl, rfl, Try.ntmps92, rfl, by kernel_rfl⟩

def c_louperef01_at : LC :=
  (.seq (.reg [⟨some 2, .box t_api_Node (.tmp 0), none, false⟩,
   ⟨some 4, .assign (.const (.int .i64 0)), none, false⟩])
  (.seq (.weak (.reg [⟨some 6, .fieldAddr t_api_Node (.tmp 2) 3, none, false⟩,
   ⟨some 7, .load t_string (.tmp 6), none, false⟩,
   ⟨some 8, .call ⟨.builtin .len, ⟨[(.tmp 7)]⟩, ⟨[t_string]⟩⟩, none, false⟩,
   ⟨some 9, .binOp .sub t_int (.tmp 8) (.const (.int .i64 1)) t_int, none, false⟩,
   ⟨some 10, .move (.tmp 1), none, false⟩,
   ⟨some 11, .fieldAddr t_api_Node (.tmp 2) 5, none, false⟩,
   ⟨some 12, .load t_int (.tmp 11), none, false⟩,
   ⟨some 13, .binOp .sub t_int (.tmp 10) (.tmp 12) t_int, none, false⟩,
   ⟨some 14, .binOp .sub t_int (.tmp 9) (.tmp 13) t_int, none, false⟩,
   ⟨some 5, .assign (.tmp 14), none, false⟩]))
  (.seq (.seq (.reg [⟨some 15, .move (.tmp 5), none, false⟩,
   ⟨some 16, .binOp .lss t_int (.tmp 15) (.const (.int .i64 0)) t_int, none, false⟩,
   ⟨some 17, .move (.tmp 16), none, false⟩,
   ⟨some 18, .move (.tmp 5), some (some 17, false), false⟩,
   ⟨some 19, .fieldAddr t_api_Node (.tmp 2) 3, some (some 17, false), false⟩,
   ⟨some 20, .load t_string (.tmp 19), some (some 17, false), false⟩,
   ⟨some 21, .call ⟨.builtin .len, ⟨[(.tmp 20)]⟩, ⟨[t_string]⟩⟩, some (some 17, false), false⟩,
   ⟨some 22, .binOp .geq t_int (.tmp 18) (.tmp 21) t_int, some (some 17, false), false⟩,
   ⟨some 23, .pick (.tmp 17) (.const (.bool true)) (.tmp 22), none, false⟩])
  (.cond (.tmp 23)
   (.seq (.reg [⟨some 4, .assign (.const (.int .i64 0)), none, false⟩])
   .ret)
   .skip))
  (.seq (.reg [⟨some 24, .fieldAddr t_api_Node (.tmp 2) 3, none, false⟩,
   ⟨some 25, .load t_string (.tmp 24), none, false⟩,
   ⟨some 26, .move (.tmp 5), none, false⟩,
   ⟨some 27, .index t_string (.tmp 25) (.tmp 26), none, false⟩,
   ⟨some 28, .binOp .sub t_uint8 (.tmp 27) (.const (.int .u8 48)) t_uint8, none, false⟩,
   ⟨some 29, .convert t_uint8 t_int (.tmp 28), none, false⟩,
   ⟨some 4, .assign (.tmp 29), none, false⟩])
  .ret))))
theorem k_louperef01_at : FnOk Try.prog f_louperef01_at 30 [.tmp 4] c_louperef01_at := ⟨_, _, Try.func93, by kernel_rfl, rfl, Try.ntmps93, rfl, by kernel_rfl⟩

def c_louperef02_own : LC :=
  (.seq (.reg [⟨some 6, .assign (.const (.slice none 0 0)), none, false⟩])
  (.seq (.reg [⟨some 9, .buildSlice t_api_Val 0 ⟨[]⟩, none, true⟩,
   ⟨some 10, .move (.tmp 0), none, false⟩,
   ⟨some 11, .move (.tmp 1), none, false⟩,
   ⟨some 12, .move (.tmp 2), none, false⟩,
   ⟨some 13, .slice t_api_Val (.tmp 10) (some (.tmp 11)) (some (.tmp 12)) none, none, false⟩,
   ⟨some 14, .call ⟨.builtin .append, ⟨[(.tmp 9), (.tmp 13)]⟩, ⟨[t_api_Val, t_api_Val]⟩⟩, none, false⟩,
   ⟨some 7, .assign (.tmp 14), none, false⟩])
  (.seq (.reg [⟨some 15, .move (.tmp 7), none, false⟩,
   ⟨some 16, .indexAddr t_api_Val (.tmp 15) (.const (.int .i64 0)), none, false⟩,
   ⟨some 17, .load t_api_Node (.tmp 16), none, false⟩,
   ⟨some 8, .alloc t_api_Node, none, false⟩,
   ⟨none, .store t_api_Node (.tmp 8) (.tmp 17), none, false⟩])
  (.seq (.reg [⟨some 18, .fieldAddr t_api_Node (.tmp 8) 2, none, false⟩,
   ⟨none, .store t_string (.tmp 18) (.const (.string ⟨⟨[]⟩⟩)), none, false⟩])
  (.seq (.reg [⟨some 19, .move (.tmp 7), none, false⟩,
   ⟨some 20, .load t_api_Node (.tmp 8), none, false⟩,
   ⟨some 21, .indexAddr t_api_Val (.tmp 19) (.const (.int .i64 0)), none, false⟩,
   ⟨none, .store t_api_Node (.tmp 21) (.tmp 20), none, false⟩])
  (.seq (.reg [⟨some 22, .move (.tmp 7), none, false⟩,
   ⟨some 6, .assign (.tmp 22), none, false⟩])
  .ret))))))
theorem k_louperef02_own : FnOk Try.prog f_louperef02_own 23 [.tmp 6] c_louperef02_own := ⟨_, _, Try.func94, by kernel_rfl, rfl, Try.ntmps94, rfl, by kernel_rfl⟩

def c_order_merged_int_ : LC :=
  (.seq (.reg [⟨some 6, .assign (.const (.slice none 0 0)), none, false⟩])
  (.seq (.reg [⟨some 8, .move (.tmp 0), none, false⟩,
   ⟨some 9, .call ⟨.builtin .len, ⟨[(.tmp 8)]⟩, ⟨[t_L_int]⟩⟩, none, false⟩,
   ⟨some 10, .move (.tmp 1), none, false⟩,
   ⟨some 11, .call ⟨.builtin .len, ⟨[(.tmp 10)]⟩, ⟨[t_L_int]⟩⟩, none, false⟩,
   ⟨some 12, .binOp .add t_int (.tmp 9) (.tmp 11) t_int, none, false⟩,
   ⟨some 13, .makeSlice t_L_int (.const (.int .i64 0)) (.tmp 12), none, false⟩,
   ⟨some 7, .assign (.tmp 13), none, false⟩])
  (.seq (.block 0 (.loop [true, true, true, false, false, false, false, true, false, false, false, false, false, false, false, false, false, false, false, false, false, false, false, false, false, false, false, false, false, false, false, false, false, false, false, false, false, false, false, false, false, false, false, false, false, false, false, false, false, false, false] none
   (.seq (.seq (.reg [⟨some 14, .move (.tmp 0), none, false⟩,
     ⟨some 15, .call ⟨.builtin .len, ⟨[(.tmp 14)]⟩, ⟨[t_L_int]⟩⟩, none, false⟩,
     ⟨some 16, .binOp .gtr t_int (.tmp 15) (.const (.int .i64 0)) t_int, none, false⟩,
     ⟨some 17, .move (.tmp 16), none, false⟩,
     ⟨some 18, .move (.tmp 1), some (some 17, true), false⟩,
     ⟨some 19, .call ⟨.builtin .len, ⟨[(.tmp 18)]⟩, ⟨[t_L_int]⟩⟩, some (some 17, true), false⟩,
     ⟨some 20, .binOp .gtr t_int (.tmp 19) (.const (.int .i64 0)) t_int, some (some 17, true), false⟩,
     ⟨some 21, .pick (.tmp 17) (.tmp 20) (.const (.bool false)), none, false⟩])
    (.cond (.tmp 21)
     .skip
     (.exit 0)))
    (.block 1 (.seq (.seq (.draw [⟨some 22, .move (.tmp 2), none, false⟩,
      ⟨some 23, .move (.tmp 1), none, false⟩,
      ⟨some 24, .indexAddr t_L_int (.tmp 23) (.const (.int .i64 0)), none, false⟩,
      ⟨some 25, .load t_int (.tmp 24), none, false⟩,
      ⟨some 26, .move (.tmp 0), none, false⟩,
      ⟨some 27, .indexAddr t_L_int (.tmp 26) (.const (.int .i64 0)), none, false⟩,
      ⟨some 28, .load t_int (.tmp 27), none, false⟩,
      ⟨some 29, .call ⟨.value (.tmp 22), ⟨[(.tmp 25), (.tmp 28)]⟩, ⟨[t_int, t_int]⟩⟩, none, false⟩]
     [0, 1, 1, 1, 15, 15, 15, 0])
     (.cond (.tmp 29)
      (.seq (.draw [⟨some 30, .move (.tmp 7), none, false⟩,
       ⟨some 31, .move (.tmp 1), none, false⟩,
       ⟨some 32, .indexAddr t_L_int (.tmp 31) (.const (.int .i64 0)), none, false⟩,
       ⟨some 33, .load t_int (.tmp 32), none, false⟩,
       ⟨some 34, .buildSlice t_L_int 1 ⟨[(0, (.tmp 33))]⟩, none, false⟩,
       ⟨some 35, .call ⟨.builtin .append, ⟨[(.tmp 30), (.tmp 34)]⟩, ⟨[t_L_int, t_L_int]⟩⟩, none, false⟩,
       ⟨some 36, .move (.tmp 1), none, false⟩,
       ⟨some 37, .slice t_L_int (.tmp 36) (some (.const (.int .i64 1))) none none, none, false⟩,
       ⟨some 7, .assign (.tmp 35), none, false⟩,
       ⟨some 1, .assign (.tmp 37), none, false⟩]
      [0, 1, 1, 1, 1, 0, 63, 63, 192, 0])
      (.exit 1))
      .skip))
     (.draw [⟨some 38, .move (.tmp 7), none, false⟩,
      ⟨some 39, .move (.tmp 0), none, false⟩,
      ⟨some 40, .indexAddr t_L_int (.tmp 39) (.const (.int .i64 0)), none, false⟩,
      ⟨some 41, .load t_int (.tmp 40), none, false⟩,
      ⟨some 42, .buildSlice t_L_int 1 ⟨[(0, (.tmp 41))]⟩, none, false⟩,
      ⟨some 43, .call ⟨.builtin .append, ⟨[(.tmp 38), (.tmp 42)]⟩, ⟨[t_L_int, t_L_int]⟩⟩, none, false⟩,
      ⟨some 44, .move (.tmp 0), none, false⟩,
      ⟨some 45, .slice t_L_int (.tmp 44) (some (.const (.int .i64 1))) none none, none, false⟩,
      ⟨some 7, .assign (.tmp 43), none, false⟩,
      ⟨some 0, .assign (.tmp 45), none, false⟩]
     [0, 1, 1, 1, 1, 0, 63, 63, 192, 0]))))))
  (.seq (.reg [⟨some 46, .move (.tmp 7), none, false⟩,
   ⟨some 47, .move (.tmp 0), none, false⟩,
   ⟨some 48, .call ⟨.builtin .append, ⟨[(.tmp 46), (.tmp 47)]⟩, ⟨[t_L_int, t_L_int]⟩⟩, none, false⟩,
   ⟨some 49, .move (.tmp 1), none, false⟩,
   ⟨some 50, .call ⟨.builtin .append, ⟨[(.tmp 48), (.tmp 49)]⟩, ⟨[t_L_int, t_L_int]⟩⟩, none, false⟩,
   ⟨some 6, .assign (.tmp 50), none, false⟩])
  .ret))))
theorem k_order_merged_int_ : FnOk Try.prog f_order_merged_int_ 51 [.tmp 6] c_order_merged_int_ := ⟨_, _, Try.func95, by kernel_rfl, rfl, Try.ntmps95, rfl, by kernel_rfl⟩

def c_louperef02_cont : LC :=
  (.seq (.reg [⟨some 4, .assign (.const (.bool false)), none, false⟩])
  (.seq (.reg [⟨some 5, .move (.tmp 1), none, false⟩,
   ⟨some 6, .move (.tmp 0), none, false⟩,
   ⟨some 7, .call ⟨.builtin .len, ⟨[(.tmp 6)]⟩, ⟨[t_string]⟩⟩, none, false⟩,
   ⟨some 8, .binOp .lss t_int (.tmp 5) (.tmp 7) t_int, none, false⟩,
   ⟨some 9, .move (.tmp 8), none, false⟩,
   ⟨some 10, .move (.tmp 0), some (some 9, true), false⟩,
   ⟨some 11, .move (.tmp 1), some (some 9, true), false⟩,
   ⟨some 12, .index t_string (.tmp 10) (.tmp 11), some (some 9, true), false⟩,
   ⟨some 13, .binOp .geq t_uint8 (.tmp 12) (.const (.int .u8 128)) t_uint8, some (some 9, true), false⟩,
   ⟨some 14, .pick (.tmp 9) (.tmp 13) (.const (.bool false)), none, false⟩,
   ⟨some 15, .move (.tmp 14), none, false⟩,
   ⟨some 16, .move (.tmp 0), some (some 15, true), false⟩,
   ⟨some 17, .move (.tmp 1), some (some 15, true), false⟩,
   ⟨some 18, .index t_string (.tmp 16) (.tmp 17), some (some 15, true), false⟩,
   ⟨some 19, .binOp .lss t_uint8 (.tmp 18) (.const (.int .u8 192)) t_uint8, some (some 15, true), false⟩,
   ⟨some 20, .pick (.tmp 15) (.tmp 19) (.const (.bool false)), none, false⟩,
   ⟨some 4, .assign (.tmp 20), none, false⟩])
  .ret))
theorem k_louperef02_cont : FnOk Try.prog f_louperef02_cont 21 [.tmp 4] c_louperef02_cont := ⟨_, _, Try.func96, by kernel_rfl, rfl, Try.ntmps96, rfl, by kernel_rfl⟩

def c_louperef01_Right : LC :=
  (.seq (.reg [⟨some 1, .box t_api_Node (.tmp 0), none, false⟩,
   ⟨some 2, .assign (.const (.bool false)), none, false⟩])
  (.seq (.seq (.weak (.reg [⟨some 3, .fieldAddr t_api_Node (.tmp 1) 0, none, false⟩,
   ⟨some 4, .load t_int (.tmp 3), none, false⟩,
   ⟨some 5, .binOp .neq t_int (.tmp 4) (.const (.int .i64 3)) t_int, none, false⟩,
   ⟨some 6, .move (.tmp 5), none, false⟩,
   ⟨some 7, .fieldAddr t_api_Node (.tmp 1) 1, some (some 6, false), false⟩,
   ⟨some 8, .load t_int (.tmp 7), some (some 6, false), false⟩,
   ⟨some 9, .binOp .neq t_int (.tmp 8) (.const (.int .i64 0)) t_int, some (some 6, false), false⟩,
   ⟨some 10, .pick (.tmp 6) (.const (.bool true)) (.tmp 9), none, false⟩,
   ⟨some 11, .move (.tmp 10), none, false⟩,
   ⟨some 12, .fieldAddr t_api_Node (.tmp 1) 2, some (some 11, false), false⟩,
   ⟨some 13, .load t_string (.tmp 12), some (some 11, false), false⟩,
   ⟨some 14, .binOp .neq t_string (.tmp 13) (.const (.string ⟨⟨[]⟩⟩)) t_string, some (some 11, false), false⟩,
   ⟨some 15, .pick (.tmp 11) (.const (.bool true)) (.tmp 14), none, false⟩,
   ⟨some 16, .move (.tmp 15), none, false⟩,
   ⟨some 17, .fieldAddr t_api_Node (.tmp 1) 3, some (some 16, false), false⟩,
   ⟨some 18, .load t_string (.tmp 17), some (some 16, false), false⟩,
   ⟨some 19, .call ⟨.value (.func f_louperef01_figures), ⟨[(.tmp 18)]⟩, ⟨[t_string]⟩⟩, some (some 16, false), false⟩,
   ⟨some 20, .unOp .not t_bool (.tmp 19), some (some 16, false), false⟩,
   ⟨some 21, .pick (.tmp 16) (.const (.bool true)) (.tmp 20), none, false⟩,
   ⟨some 22, .move (.tmp 21), none, false⟩,
   ⟨some 23, .fieldAddr t_api_Node (.tmp 1) 3, some (some 22, false), false⟩,
   ⟨some 24, .load t_string (.tmp 23), some (some 22, false), false⟩,
   ⟨some 25, .call ⟨.builtin .len, ⟨[(.tmp 24)]⟩, ⟨[t_string]⟩⟩, some (some 22, false), false⟩,
   ⟨some 26, .binOp .gtr t_int (.tmp 25) (.const (.int .i64 100)) t_int, some (some 22, false), false⟩,
   ⟨some 27, .pick (.tmp 22) (.const (.bool true)) (.tmp 26), none, false⟩,
   ⟨some 28, .move (.tmp 27), none, false⟩,
   ⟨some 29, .fieldAddr t_api_Node (.tmp 1) 5, some (some 28, false), false⟩,
   ⟨some 30, .load t_int (.tmp 29), some (some 28, false), false⟩,
   ⟨some 31, .binOp .lss t_int (.tmp 30) (.const (.int .i64 (-1000))) t_int, some (some 28, false), false⟩,
   ⟨some 32, .pick (.tmp 28) (.const (.bool true)) (.tmp 31), none, false⟩,
   ⟨some 33, .move (.tmp 32), none, false⟩,
   ⟨some 34, .fieldAddr t_api_Node (.tmp 1) 5, some (some 33, false), false⟩,
   ⟨some 35, .load t_int (.tmp 34), some (some 33, false), false⟩,
   ⟨some 36, .binOp .gtr t_int (.tmp 35) (.const (.int .i64 1000)) t_int, some (some 33, false), false⟩,
   ⟨some 37, .pick (.tmp 33) (.const (.bool true)) (.tmp 36), none, false⟩,
   ⟨some 38, .move (.tmp 37), none, false⟩,
   ⟨some 39, .fieldAddr t_api_Node (.tmp 1) 3, some (some 38, false), false⟩,
   ⟨some 40, .load t_string (.tmp 39), some (some 38, false), false⟩,
   ⟨some 41, .call ⟨.builtin .len, ⟨[(.tmp 40)]⟩, ⟨[t_string]⟩⟩, some (some 38, false), false⟩,
   ⟨some 42, .fieldAddr t_api_Node (.tmp 1) 5, some (some 38, false), false⟩,
   ⟨some 43, .load t_int (.tmp 42), some (some 38, false), false⟩,
   ⟨some 44, .binOp .add t_int (.tmp 41) (.tmp 43) t_int, some (some 38, false), false⟩,
   ⟨some 45, .binOp .gtr t_int (.tmp 44) (.const (.int .i64 1000)) t_int, some (some 38, false), false⟩,
   ⟨some 46, .pick (.tmp 38) (.const (.bool true)) (.tmp 45), none, false⟩]))
  (.cond (.tmp 46)
   (.seq (.reg [⟨some 2, .assign (.const (.bool false)), none, false⟩])
   .ret)
   .skip))
  (.seq (.seq (.reg [⟨some 47, .fieldAddr t_api_Node (.tmp 1) 3, none, false⟩,
   ⟨some 48, .load t_string (.tmp 47), none, false⟩,
   ⟨some 49, .binOp .eql t_string (.tmp 48) (.const (.string ⟨⟨[]⟩⟩)) t_string, none, false⟩])
  (.cond (.tmp 49)
   (.seq (.reg [⟨some 50, .fieldAddr t_api_Node (.tmp 1) 4, none, false⟩,
    ⟨some 51, .load t_bool (.tmp 50), none, false⟩,
    ⟨some 52, .unOp .not t_bool (.tmp 51), none, false⟩,
    ⟨some 53, .move (.tmp 52), none, false⟩,
    ⟨some 54, .fieldAddr t_api_Node (.tmp 1) 5, some (some 53, true), false⟩,
    ⟨some 55, .load t_int (.tmp 54), some (some 53, true), false⟩,
    ⟨some 56, .binOp .eql t_int (.tmp 55) (.const (.int .i64 0)) t_int, some (some 53, true), false⟩,
    ⟨some 57, .pick (.tmp 53) (.tmp 56) (.const (.bool false)), none, false⟩,
    ⟨some 2, .assign (.tmp 57), none, false⟩])
   .ret)
   .skip))
  (.seq (.reg [⟨some 58, .fieldAddr t_api_Node (.tmp 1) 3, none, false⟩,
   ⟨some 59, .load t_string (.tmp 58), none, false⟩,
   ⟨some 60, .index t_string (.tmp 59) (.const (.int .i64 0)), none, false⟩,
   ⟨some 61, .binOp .neq t_uint8 (.tmp 60) (.const (.int .u8 48)) t_uint8, none, false⟩,
   ⟨some 62, .move (.tmp 61), none, false⟩,
   ⟨some 63, .fieldAddr t_api_Node (.tmp 1) 3, some (some 62, true), false⟩,
   ⟨some 64, .load t_string (.tmp 63), some (some 62, true), false⟩,
   ⟨some 65, .fieldAddr t_api_Node (.tmp 1) 3, some (some 62, true), false⟩,
   ⟨some 66, .load t_string (.tmp 65), some (some 62, true), false⟩,
   ⟨some 67, .call ⟨.builtin .len, ⟨[(.tmp 66)]⟩, ⟨[t_string]⟩⟩, some (some 62, true), false⟩,
   ⟨some 68, .binOp .sub t_int (.tmp 67) (.const (.int .i64 1)) t_int, some (some 62, true), false⟩,
   ⟨some 69, .index t_string (.tmp 64) (.tmp 68), some (some 62, true), false⟩,
   ⟨some 70, .binOp .neq t_uint8 (.tmp 69) (.const (.int .u8 48)) t_uint8, some (some 62, true), false⟩,
   ⟨some 71, .pick (.tmp 62) (.tmp 70) (.const (.bool false)), none, false⟩,
   ⟨some 2, .assign (.tmp 71), none, false⟩])
  .ret))))
theorem k_louperef01_Right : FnOk Try.prog f_louperef01_Right 72 [.tmp 2] c_louperef01_Right := ⟨_, _, Try.func107, by kernel_rfl, rfl, Try.ntmps107, rfl, by kernel_rfl⟩

def c_val_each_1 : LC :=
  (.seq (.reg [⟨some 3, .assign (.const (.int .i64 1)), none, false⟩])
  (.seq (.reg [⟨some 6, .load t_api_Val (.tmp 1), none, false⟩,
   ⟨some 7, .indexAddr t_api_Val (.tmp 6) (.const (.int .i64 0)), none, false⟩,
   ⟨some 8, .fieldAddr t_api_Node (.tmp 7) 1, none, false⟩,
   ⟨some 9, .load t_int (.tmp 8), none, false⟩,
   ⟨some 10, .move (.const (.int .i64 0)), none, false⟩])
  (.block 0 (.loop [true, true, false, true, false, false, false, false, false, true, true, false, false, false, false, false, false, false, false, false, false, false, false, false, false, false, false, false, false, false, false, false, false, false] none
   (.seq (.reg [⟨some 11, .binOp .lss t_int (.tmp 10) (.tmp 9) t_int, none, false⟩])
    (.seq (.cond (.tmp 11)
     .skip
     (.exit 0))
    (.seq (.block 1 (.seq (.reg [⟨some 12, .load t_api_Val (.tmp 1), none, false⟩,
      ⟨some 13, .move (.tmp 3), none, false⟩,
      ⟨some 14, .call ⟨.value (.func f_val_behind), ⟨[(.tmp 12), (.tmp 13)]⟩, ⟨[t_api_Val, t_int]⟩⟩, none, false⟩,
      ⟨some 4, .assign (.tmp 14), none, false⟩])
     (.seq (.reg [⟨some 15, .load t_api_Val (.tmp 1), none, false⟩,
      ⟨some 16, .move (.tmp 3), none, false⟩,
      ⟨some 17, .move (.tmp 4), none, false⟩,
      ⟨some 18, .slice t_api_Val (.tmp 15) (some (.tmp 16)) (some (.tmp 17)) none, none, false⟩,
      ⟨some 19, .call ⟨.value (.func f_slices_Clone_api_Val_api_Node_), ⟨[(.tmp 18)]⟩, ⟨[t_api_Val]⟩⟩, none, false⟩,
      ⟨some 5, .assign (.tmp 19), none, false⟩])
     (.seq (.reg [⟨some 20, .move (.tmp 5), none, false⟩,
      ⟨some 21, .indexAddr t_api_Val (.tmp 20) (.const (.int .i64 0)), none, false⟩,
      ⟨some 22, .fieldAddr t_api_Node (.tmp 21) 2, none, false⟩,
      ⟨none, .store t_string (.tmp 22) (.const (.string ⟨⟨[]⟩⟩)), none, false⟩])
     (.seq (.seq (.weak (.reg [⟨some 23, .move (.tmp 0), none, false⟩,
      ⟨some 24, .load t_api_Val (.tmp 1), none, false⟩,
      ⟨some 25, .move (.tmp 3), none, false⟩,
      ⟨some 26, .indexAddr t_api_Val (.tmp 24) (.tmp 25), none, false⟩,
      ⟨some 27, .fieldAddr t_api_Node (.tmp 26) 2, none, false⟩,
      ⟨some 28, .load t_string (.tmp 27), none, false⟩,
      ⟨some 29, .move (.tmp 5), none, false⟩,
      ⟨some 30, .call ⟨.value (.tmp 23), ⟨[(.tmp 28), (.tmp 29)]⟩, ⟨[t_string, t_api_Val]⟩⟩, none, false⟩,
      ⟨some 31, .unOp .not t_bool (.tmp 30), none, false⟩]))
     (.cond (.tmp 31)
      .ret
      .skip))
     (.reg [⟨some 32, .move (.tmp 4), none, false⟩,
      ⟨some 3, .assign (.tmp 32), none, false⟩]))))))
    (.reg [⟨some 33, .binOp .add t_int (.tmp 10) (.const (.int .i64 1)) t_int, none, false⟩,
     ⟨some 10, .move (.tmp 33), none, false⟩]))))))))
theorem k_val_each_1 : FnOk Try.prog f_val_each_1 34 [] c_val_each_1 := ⟨_, _, Try.func108, by kernel_rfl, rfl, Try.ntmps108, rfl, by kernel_rfl⟩

def c_val_behind : LC :=
  (.seq (.reg [⟨some 4, .assign (.const (.int .i64 0)), none, false⟩])
  (.seq (.seq (.reg [⟨some 5, .assign (.const (.int .i64 1)), none, false⟩])
  (.block 0 (.loop [true, true, false, false, false, true, false, false, false, false, false, false, false, false, false, false, false, false, false] none
   (.seq (.seq (.reg [⟨some 6, .move (.tmp 5), none, false⟩,
     ⟨some 7, .binOp .gtr t_int (.tmp 6) (.const (.int .i64 0)) t_int, none, false⟩])
    (.cond (.tmp 7)
     .skip
     (.exit 0)))
    (.seq (.block 1 (.reg [⟨some 10, .move (.tmp 5), none, false⟩,
      ⟨some 11, .move (.tmp 0), none, false⟩,
      ⟨some 12, .move (.tmp 1), none, false⟩,
      ⟨some 13, .indexAddr t_api_Val (.tmp 11) (.tmp 12), none, false⟩,
      ⟨some 14, .fieldAddr t_api_Node (.tmp 13) 1, none, false⟩,
      ⟨some 15, .load t_int (.tmp 14), none, false⟩,
      ⟨some 16, .binOp .sub t_int (.tmp 15) (.const (.int .i64 1)) t_int, none, false⟩,
      ⟨some 17, .binOp .add t_int (.tmp 10) (.tmp 16) t_int, none, false⟩,
      ⟨some 5, .assign (.tmp 17), none, false⟩]))
    (.reg [⟨some 8, .move (.tmp 1), none, false⟩,
     ⟨some 9, .binOp .add t_int (.tmp 8) (.const (.int .i64 1)) t_int, none, false⟩,
     ⟨some 1, .assign (.tmp 9), none, false⟩]))))))
  (.seq (.reg [⟨some 18, .move (.tmp 1), none, false⟩,
   ⟨some 4, .assign (.tmp 18), none, false⟩])
  .ret)))
theorem k_val_behind : FnOk Try.prog f_val_behind 19 [.tmp 4] c_val_behind := ⟨_, _, Try.func109, by kernel_rfl, rfl, Try.ntmps109, rfl, by kernel_rfl⟩

def c_slices_Clone_api_Val_api_Node_ : LC :=
  (.seq (.reg [⟨some 2, .assign (.const (.slice none 0 0)), none, false⟩])
  (.seq (.seq (.reg [⟨some 3, .move (.tmp 0), none, false⟩,
   ⟨some 4, .binOp .eql t_api_Val (.tmp 3) (.const (.slice none 0 0)) t_api_Val, none, false⟩])
  (.cond (.tmp 4)
   (.seq (.reg [⟨some 2, .assign (.const (.slice none 0 0)), none, false⟩])
   .ret)
   .skip))
  (.seq (.reg [⟨some 5, .buildSlice t_api_Val 0 ⟨[]⟩, none, true⟩,
   ⟨some 6, .move (.tmp 0), none, false⟩,
   ⟨some 7, .call ⟨.builtin .append, ⟨[(.tmp 5), (.tmp 6)]⟩, ⟨[t_api_Val, t_api_Val]⟩⟩, none, false⟩,
   ⟨some 2, .assign (.tmp 7), none, false⟩])
  .ret)))
theorem k_slices_Clone_api_Val_api_Node_ : FnOk Try.prog f_slices_Clone_api_Val_api_Node_ 8 [.tmp 2] c_slices_Clone_api_Val_api_Node_ := ⟨_, _, Try.func110, by kernel_rfl, rfl, Try.ntmps110, rfl, by kernel_rfl⟩

def c_louperef01_figures : LC :=
  (.seq (.reg [⟨some 2, .assign (.const (.bool false)), none, false⟩])
  (.seq (.seq (.reg [⟨some 3, .assign (.const (.int .i64 0)), none, false⟩])
  (.block 0 (.loop [true, false, false, true, false, false, false, false, false, false, false, false, false, false, false, false, false, false, false, false] none
   (.seq (.seq (.reg [⟨some 4, .move (.tmp 3), none, false⟩,
     ⟨some 5, .move (.tmp 0), none, false⟩,
     ⟨some 6, .call ⟨.builtin .len, ⟨[(.tmp 5)]⟩, ⟨[t_string]⟩⟩, none, false⟩,
     ⟨some 7, .binOp .lss t_int (.tmp 4) (.tmp 6) t_int, none, false⟩])
    (.cond (.tmp 7)
     .skip
     (.exit 0)))
    (.seq (.block 1 (.seq (.reg [⟨some 10, .move (.tmp 0), none, false⟩,
      ⟨some 11, .move (.tmp 3), none, false⟩,
      ⟨some 12, .index t_string (.tmp 10) (.tmp 11), none, false⟩,
      ⟨some 13, .binOp .lss t_uint8 (.tmp 12) (.const (.int .u8 48)) t_uint8, none, false⟩,
      ⟨some 14, .move (.tmp 13), none, false⟩,
      ⟨some 15, .move (.tmp 0), some (some 14, false), false⟩,
      ⟨some 16, .move (.tmp 3), some (some 14, false), false⟩,
      ⟨some 17, .index t_string (.tmp 15) (.tmp 16), some (some 14, false), false⟩,
      ⟨some 18, .binOp .gtr t_uint8 (.tmp 17) (.const (.int .u8 57)) t_uint8, some (some 14, false), false⟩,
      ⟨some 19, .pick (.tmp 14) (.const (.bool true)) (.tmp 18), none, false⟩])
     (.cond (.tmp 19)
      (.seq (.reg [⟨some 2, .assign (.const (.bool false)), none, false⟩])
      .ret)
      .skip)))
    (.reg [⟨some 8, .move (.tmp 3), none, false⟩,
     ⟨some 9, .binOp .add t_int (.tmp 8) (.const (.int .i64 1)) t_int, none, false⟩,
     ⟨some 3, .assign (.tmp 9), none, false⟩]))))))
  (.seq (.reg [⟨some 2, .assign (.const (.bool true)), none, false⟩])
  .ret)))
theorem k_louperef01_figures : FnOk Try.prog f_louperef01_figures 20 [.tmp 2] c_louperef01_figures := ⟨_, _, Try.func114, by kernel_rfl, rfl, Try.ntmps114, rfl, by kernel_rfl⟩

end Lp

/-! LpZ -/

namespace Lp
open Go

/-- What goes on with a value, out of simp's sight. -/
structure HK {α : Type} (K : α → Prop) : Type where

def atO {α : Type} {K : α → Prop} (o : Option α) (_h : HK K) : Prop := ∃ x, o = some x ∧ K x

theorem atO_mk {α : Type} {K : α → Prop} {o : Option α} (x : α) (h : o = some x) (hk : K x) : atO o (HK.mk : HK K) := ⟨x, h, hk⟩

theorem atR {α : Type} (K : α → Prop) : (∀ x, atO (some x) (HK.mk : HK K) = K x) ∧ (∀ (a : α) l, (a :: l)[0]? = some a) ∧ (∀ (a : α) l (n : Nat), (a :: l)[n + 1]? = l[n]?) :=
  ⟨fun x => by simp [atO], fun _ _ => rfl, fun _ _ _ => by simp⟩

def slK (k : TK) (K : TypeId → Prop) : Prop := match k with
  | .slice e => K e
  | _ => False
def arK (k : TK) (K : Nat → TypeId → Prop) : Prop := match k with
  | .array n e => K n e
  | _ => False
def strK (k : TK) (X : Prop) : Prop := match k with
  | .str => X
  | _ => False

@[congr] theorem slK_congr {k k' : TK} {K : TypeId → Prop} (h : k = k') : slK k K = slK k' K := by rw [h]
@[congr] theorem arK_congr {k k' : TK} {K : Nat → TypeId → Prop} (h : k = k') : arK k K = arK k' K := by rw [h]
@[congr] theorem strK_congr {k k' : TK} {X : Prop} (h : k = k') : strK k X = strK k' X := by rw [h]

theorem skR : (∀ e K, slK (.slice e) K = K e) ∧ (∀ n e K, arK (.array n e) K = K n e) ∧ (∀ X, strK .str X = X) := ⟨fun _ _ => rfl, fun _ _ _ => rfl, fun _ => rfl⟩

theorem genR (D : TypeId → TInfo) (objs : List Obj) (K : KT) :
    (∀ t sz xs q k n, indexAddrR D t (.sl sz xs q) (.int k n) objs K = slK (D t).kind fun e => (D e).kind ≠ .none ∧ 0 ≤ n ∧ (D e).size = sz ∧ atO xs[n.toNat]? (HK.mk : HK fun y => K (.addr y) objs 0)) ∧
    (∀ t k ver k' n, indexAddrR D t (.osl k ver) (.int k' n) objs K = slK (D t).kind fun e => (D e).kind ≠ .none ∧ 0 ≤ n ∧ ∃ o, objs[k]? = some o ∧ o.live = true ∧ o.ver = ver ∧ n < o.xs.length ∧ (D e).size = o.sz ∧ K (.optr k ver n.toNat 0) objs (4 + 2 * k)) ∧
    (∀ t cs k n, indexAddrR D t (.addr (.agg cs)) (.int k n) objs K = arK (D t).kind fun m e => (D e).kind ≠ .none ∧ 0 ≤ n ∧ n < m ∧ (n.toNat + 1) * (D e).size ≤ cs.length ∧ ((D e).agg = false → (D e).size = 1) ∧ cs.all (fun c => !c.isAgg) = true ∧
      K (.addr (sub cs (n.toNat * (D e).size) (D e).size (D e).agg)) objs 0) ∧
    (∀ t k ver i f k' n, indexAddrR D t (.optr k ver i f) (.int k' n) objs K = arK (D t).kind fun m e => (D e).kind ≠ .none ∧ 0 ≤ n ∧ n < m ∧ ∃ o, objs[k]? = some o ∧ o.live = true ∧ o.ver = ver ∧ K (.optr k ver i (f + n.toNat * (D e).size)) objs (4 + 2 * k)) ∧
    (∀ t s k n, indexR D t (.str s) (.int k n) objs K = strK (D t).kind (0 ≤ n ∧ atO s[n.toNat]? (HK.mk : HK fun b => K (.int .u8 b.toNat) objs 0))) ∧
    (∀ t cs k n, indexR D t (.agg cs) (.int k n) objs K = arK (D t).kind fun m e => (D e).kind ≠ .none ∧ 0 ≤ n ∧ n < m ∧ (n.toNat + 1) * (D e).size ≤ cs.length ∧ (D e).size ≠ 0 ∧ K (sub cs (n.toNat * (D e).size) (D e).size (D e).agg) objs 0) ∧
    (∀ t cs f, fieldAddrR D t (.addr (.agg cs)) f objs K = fieldOf D t f fun off ti => off + ti.size ≤ cs.length ∧ (ti.agg = false → ti.size = 1) ∧ cs.all (fun c => !c.isAgg) = true ∧ K (.addr (sub cs off ti.size ti.agg)) objs 0) ∧
    (∀ t k ver i f' f, fieldAddrR D t (.optr k ver i f') f objs K = ∃ o, objs[k]? = some o ∧ o.live = true ∧ o.ver = ver ∧ fieldOf D t f fun off _ => K (.optr k ver i (f' + off)) objs (4 + 2 * k)) ∧
    (∀ t cs f, fieldR D t (.agg cs) f objs K = fieldOf D t f fun off ti => off + ti.size ≤ cs.length ∧ K (sub cs off ti.size ti.agg) objs 0) ∧
    (∀ t s, lenR D t (.str s) objs K = strK (D t).kind (K (.int .i64 s.length) objs 0)) ∧
    (∀ t sz xs q, lenR D t (.sl sz xs q) objs K = slK (D t).kind fun _ => K (.int .i64 xs.length) objs 0) ∧
    (∀ t k ver, lenR D t (.osl k ver) objs K = slK (D t).kind fun _ => ∃ o, objs[k]? = some o ∧ o.live = true ∧ o.ver = ver ∧ K (.int .i64 o.xs.length) objs (4 + 2 * k)) ∧
    (∀ t s lo hi, sliceR D t (.str s) lo hi objs K = strK (D t).kind (boundR lo 0 fun l => boundR hi s.length fun h => 0 ≤ l ∧ l ≤ h ∧ h ≤ s.length ∧ K (.str ((s.take h.toNat).drop l.toNat)) objs 0)) ∧
    (∀ t sz xs q lo hi, sliceR D t (.sl sz xs q) lo hi objs K = slK (D t).kind fun e => (D e).kind ≠ .none ∧ (xs = [] ∨ (D e).size = sz) ∧ boundR lo 0 fun l => boundR hi xs.length fun h => 0 ≤ l ∧ l ≤ h ∧ h ≤ xs.length ∧
      K (.sl sz ((xs.take h.toNat).drop l.toNat) q) objs 0) ∧
    (∀ t k ver lo hi, sliceR D t (.osl k ver) lo hi objs K = slK (D t).kind fun e => (D e).kind ≠ .none ∧ ∃ o, objs[k]? = some o ∧ o.live = true ∧ o.ver = ver ∧ (D e).size = o.sz ∧ lo = none ∧ boundR hi o.xs.length fun h => 0 ≤ h ∧ h ≤ o.xs.length ∧
      K (.osl k (ver + 1)) (objs.set k { o with xs := o.xs.take h.toNat, ver := ver + 1 }) (5 + 2 * k)) := by
  refine ⟨fun t sz xs q k n => ?_, fun t k ver k' n => ?_, fun t cs k n => ?_, fun t k ver i f k' n => ?_, fun t s k n => ?_, fun t cs k n => ?_, fun _ _ _ => rfl, fun _ _ _ _ _ _ => rfl, fun _ _ _ => rfl, fun t s => ?_, fun t sz xs q => ?_, fun t k ver => ?_, fun t s lo hi => ?_, fun t sz xs q lo hi => ?_, fun t k ver lo hi => ?_⟩
  all_goals try simp only [indexAddrR, indexR, lenR, sliceR]
  all_goals cases (D t).kind <;> simp only [slK, arK, strK, atO]
  apply propext
  constructor
  · rintro ⟨h1, h2, y, h3, h4, h5⟩; exact ⟨h1, h2, h4, y, h3, h5⟩
  · rintro ⟨h1, h2, h4, y, h3, h5⟩; exact ⟨h1, h2, y, h3, h4, h5⟩

theorem ldR (objs : List Obj) (K : KT) :
    (∀ ti x, loadR ti (.addr x) objs K = (ti.kind ≠ .none ∧ x.cells.length = ti.size ∧ x.isAgg = ti.agg ∧ K x objs 0)) ∧
    (∀ ti k ver i f, loadR ti (.optr k ver i f) objs K = ∃ o e, objs[k]? = some o ∧ o.live = true ∧ o.ver = ver ∧ o.xs[i]? = some e ∧ ti.kind ≠ .none ∧ f + ti.size ≤ e.cells.length ∧
      (ti.agg = false → ti.size = 1) ∧ e.cells.all (fun c => !c.isAgg) = true ∧ K (sub e.cells f ti.size ti.agg) objs (4 + 2 * k)) := ⟨fun _ _ => rfl, fun _ _ _ _ _ => rfl⟩

theorem srcK (D : TypeId → TInfo) (objs : List Obj) (K : List PV → Bool → Prop) :
    (∀ t sz xs q, srcR D t (.sl sz xs q) objs K = slK (D t).kind fun _ => K xs false) ∧
    (∀ t k ver, srcR D t (.osl k ver) objs K = slK (D t).kind fun _ => ∃ o, objs[k]? = some o ∧ o.live = true ∧ o.ver = ver ∧ K o.xs true) ∧
    (∀ t s, srcR D t (.str s) objs K = strK (D t).kind (K (s.map fun b => .int .u8 b.toNat) false)) := by
  refine ⟨fun t sz xs q => ?_, fun t k ver => ?_, fun t s => ?_⟩
  all_goals simp only [srcR]
  all_goals cases (D t).kind <;> simp only [slK, strK]

@[congr] theorem srcR_congr {D : TypeId → TInfo} {t : TypeId} {x x' : PV} {objs objs' : List Obj} {K : List PV → Bool → Prop} (h : x = x') (ho : objs = objs') : srcR D t x objs K = srcR D t x' objs' K := by rw [h, ho]

theorem ntR : noTwo [] = true ∧ (∀ l, noTwo (0 :: l) = noTwo l) ∧ (∀ l, noTwo (1 :: l) = noTwo l) ∧ (∀ l, noTwo (4 :: l) = noTwo l) ∧ (∀ l, noTwo (6 :: l) = noTwo l) ∧ (∀ l, noTwo (8 :: l) = noTwo l) ∧ (∀ l, noTwo (10 :: l) = noTwo l) :=
  ⟨rfl, fun _ => rfl, fun _ => rfl, fun _ => rfl, fun _ => rfl, fun _ => rfl, fun _ => rfl⟩

/-! ### Rows of encoded things -/

theorem rowR {α : Type} {E : List α → PV} {sz : Nat} {enc : α → PV} (hE : ∀ l, E l = .sl sz (l.map enc) none) (D : TypeId → TInfo) (objs : List Obj) (K : KT) :
    (∀ t l k n, indexAddrR D t (E l) (.int k n) objs K = slK (D t).kind fun e => (D e).kind ≠ .none ∧ 0 ≤ n ∧ (D e).size = sz ∧ atO l[n.toNat]? (HK.mk : HK fun y => K (.addr (enc y)) objs 0)) ∧
    (∀ t l, lenR D t (E l) objs K = slK (D t).kind fun _ => K (.int .i64 l.length) objs 0) ∧
    (∀ t l lo hi, sliceR D t (E l) lo hi objs K = slK (D t).kind fun e => (D e).kind ≠ .none ∧ (l = [] ∨ (D e).size = sz) ∧ boundR lo 0 fun a => boundR hi l.length fun h => 0 ≤ a ∧ a ≤ h ∧ h ≤ l.length ∧
      K (E ((l.take h.toNat).drop a.toNat)) objs 0) := by
  refine ⟨fun t l k n => ?_, fun t l => ?_, fun t l lo hi => ?_⟩
  all_goals simp only [hE, (genR D objs K).1, (genR D objs K).2.2.2.2.2.2.2.2.2.2.1, (genR D objs K).2.2.2.2.2.2.2.2.2.2.2.2.2.1]
  all_goals cases (D t).kind <;> simp only [slK, atO, List.length_map, List.map_eq_nil_iff, List.map_drop, List.map_take]
  apply propext
  constructor
  · rintro ⟨h1, h2, h4, y, h3, h5⟩
    rw [List.getElem?_map] at h3
    cases hx : l[n.toNat]? with
    | none => rw [hx] at h3; simp at h3
    | some x => rw [hx] at h3; simp only [Option.map_some, Option.some.injEq] at h3; exact ⟨h1, h2, h4, x, rfl, h3 ▸ h5⟩
  · rintro ⟨h1, h2, h4, y, h3, h5⟩
    exact ⟨h1, h2, h4, enc y, by rw [List.getElem?_map, h3]; rfl, h5⟩

theorem rowS {α : Type} {E : List α → PV} {sz : Nat} {enc : α → PV} (hE : ∀ l, E l = .sl sz (l.map enc) none) (D : TypeId → TInfo) (objs : List Obj) (K : List PV → Bool → Prop) :
    (∀ t l, srcR D t (E l) objs K = slK (D t).kind fun _ => K (l.map enc) false) := by
  intro t l
  rw [hE]
  exact (srcK D objs K).1 ..

/-- What cells know of it. -/
theorem rowC {α : Type} {E : List α → PV} {sz : Nat} {enc : α → PV} (hE : ∀ l, E l = .sl sz (l.map enc) none) :
    (∀ l, (E l).cells = [E l]) ∧ (∀ l, (E l).isAgg = false) ∧ (∀ l, (E l).pure = true) ∧ (∀ l, (E l).ref = false) ∧ (∀ l, (E l).solid = true) ∧ (∀ l, (E l).storable = true) ∧
    (∀ d n O l, frz d n O (E l) = E l) ∧ (∀ d n O l, frzT d n O (E l) = E l) := by
  refine ⟨fun l => ?_, fun l => ?_, fun l => ?_, fun l => ?_, fun l => ?_, fun l => ?_, fun _ _ _ l => ?_, fun _ _ _ l => ?_⟩
  all_goals rw [hE]; rfl

/-- What is read back of an encoded thing, out of simp's sight. -/
def ofE {α : Type} (E : α → PV) {K : α → Prop} (x : PV) (_h : HK K) : Prop := ∃ v, x = E v ∧ K v

theorem ofE_mk {α : Type} {E : α → PV} {K : α → Prop} {x : PV} (v : α) (h : x = E v) (hk : K v) : ofE E x (HK.mk : HK K) := ⟨v, h, hk⟩

theorem ofE_inj {α : Type} {E : α → PV} (hE : ∀ a b, E a = E b → a = b) (K : α → Prop) (v : α) : ofE E (E v) (HK.mk : HK K) = K v :=
  propext ⟨fun ⟨w, h, hk⟩ => hE v w h ▸ hk, fun hk => ⟨v, rfl, hk⟩⟩

theorem row_inj {α : Type} {E : List α → PV} {sz : Nat} {enc : α → PV} (hE : ∀ l, E l = .sl sz (l.map enc) none) (he : ∀ a b, enc a = enc b → a = b) : ∀ a b, E a = E b → a = b := by
  intro a b h
  rw [hE, hE] at h
  injection h with _ h _
  induction a generalizing b with
  | nil => cases b with
    | nil => rfl
    | cons y ys => simp at h
  | cons x xs ih => cases b with
    | nil => simp at h
    | cons y ys =>
      simp only [List.map_cons, List.cons.injEq] at h
      rw [he x y h.1, ih ys h.2]

theorem exS {α : Type} (a : α) (q : α → Prop) : (∃ o, some a = some o ∧ q o) = q a := by simp

theorem stoR : (∀ k n, PV.storable (.int k n) = true) ∧ (∀ b, PV.storable (.bool b) = true) ∧ (∀ s, PV.storable (.str s) = true) ∧ (∀ z xs q, PV.storable (.sl z xs q) = true) ∧
    (∀ k v, PV.storable (.osl k v) = true) ∧ (∀ k v i f, PV.storable (.optr k v i f) = true) ∧ (∀ x, PV.storable (.addr x) = true) :=
  ⟨fun _ _ => rfl, fun _ => rfl, fun _ => rfl, fun _ _ _ => rfl, fun _ _ => rfl, fun _ _ _ _ => rfl, fun _ => rfl⟩

theorem mapApp {α β : Type} (f : α → β) (l m : List α) : l.map f ++ m.map f = (l ++ m).map f := by simp

/-- What freezing leaves as it is. -/
def Inert {α : Type} (enc : α → PV) : Prop := ∀ d n objs x, PV.mapCells (frzI d n objs) (enc x) = enc x

theorem frzRow {α : Type} {E : List α → PV} {sz : Nat} {enc : α → PV} (hE : ∀ l, E l = .sl sz (l.map enc) none) (h : Inert enc) :
    (∀ d ty l v rest, frz (d + 1) 0 (⟨ty, sz, l.map enc, true, v⟩ :: rest) (.osl 0 v) = E l) ∧
    (∀ d ty l v o rest, frz (d + 1) 0 (o :: ⟨ty, sz, l.map enc, true, v⟩ :: rest) (.osl 1 v) = E l) ∧
    (∀ d ty l v o o' rest, frz (d + 1) 0 (o :: o' :: ⟨ty, sz, l.map enc, true, v⟩ :: rest) (.osl 2 v) = E l) := by
  have key : ∀ d ty l v objs k, objs[k]? = some ⟨ty, sz, l.map enc, true, v⟩ → frz (d + 1) 0 objs (.osl k v) = E l := by
    intro d ty l v objs k hk
    simp only [frz, Nat.not_lt_zero, if_false, frzI, hk, Nat.zero_le, decide_true, Bool.and_self, BEq.rfl, if_true]
    rw [hE]
    congr 1
    rw [List.map_map]
    exact List.map_congr_left fun x _ => h d 0 objs x
  exact ⟨fun d ty l v rest => key d ty l v _ 0 rfl, fun d ty l v o rest => key d ty l v _ 1 rfl, fun d ty l v o o' rest => key d ty l v _ 2 rfl⟩

/-- Elements of a row may be appended. -/
theorem rowA {α : Type} {enc : α → PV} {sz : Nat} (h1 : ∀ x, (enc x).cells.length = sz) (h2 : ∀ x, (enc x).cells.all PV.storable = true) (l : List α) :
    (∀ y, y ∈ l.map enc → y.cells.length = sz ∧ y.cells.all PV.storable = true) = True := by
  refine eq_true fun y hy => ?_
  obtain ⟨x, _, rfl⟩ := List.mem_map.1 hy
  exact ⟨h1 x, h2 x⟩

theorem rowA1 (y0 : PV) (sz : Nat) : (∀ y, y ∈ [y0] → y.cells.length = sz ∧ y.cells.all PV.storable = true) = (y0.cells.length = sz ∧ y0.cells.all PV.storable = true) := by simp

theorem neO (E : PV) (h : E.ref = false) (k : Nat) : (∀ k' v' : Nat, E = .osl k' v' → ¬ k' = k) = True := by
  refine eq_true fun k' v' he => ?_
  rw [he] at h; cases h


/-- What a loop keeps, in order. -/
def keepA : List Bool → Nat → List (Nat × PV) → List (Nat × PV)
  | [], _, _ => []
  | true :: ks, i, l => (i, lkA l i) :: keepA ks (i + 1) l
  | false :: ks, i, l => keepA ks (i + 1) l

theorem lkA_keep : ∀ (ks : List Bool) (j : Nat) (l : List (Nat × PV)) (i : Nat), lkA (keepA ks j l) i = if j ≤ i ∧ ks[i - j]? = some true then lkA l i else .dead
  | [], j, l, i => by simp [keepA, lkA]
  | true :: ks, j, l, i => by
    simp only [keepA, lkA]
    by_cases h : i = j
    · subst h; simp
    · rw [if_neg h, lkA_keep ks (j + 1) l i]
      by_cases hj : j + 1 ≤ i
      · have e : i - j = (i - (j + 1)) + 1 := by omega
        simp only [e, List.getElem?_cons_succ, hj, true_and, show j ≤ i by omega]
      · rw [if_neg (by omega), if_neg (by omega)]
  | false :: ks, j, l, i => by
    simp only [keepA]
    rw [lkA_keep ks (j + 1) l i]
    by_cases h : i = j
    · subst h; rw [if_neg (by omega), if_neg (by simp)]
    · by_cases hj : j + 1 ≤ i
      · have e : i - j = (i - (j + 1)) + 1 := by omega
        simp only [e, List.getElem?_cons_succ, hj, true_and, show j ≤ i by omega]
      · rw [if_neg (by omega), if_neg (by omega)]

theorem fgt_keep (ks : List Bool) (n : Nat) (l : List (Nat × PV)) : fgt ks (tmA n l) = tmA n (keepA ks 0 l) := by
  refine tmA_ext (by simp [fgt_length, tmA_length]) fun i hi => ?_
  rw [fgt_get?, tmA_get, if_pos hi, lkA_keep]
  simp

theorem normR :
    (∀ ks n l ob, St.norm ks none ⟨tmA n l, ob⟩ = ⟨tmA n (keepA ks 0 l), ob⟩) ∧
    (∀ ks d k n l ob, St.norm ks (some (d, k)) ⟨tmA n l, ob⟩ = St.freeze d k ⟨tmA n (keepA ks 0 l), ob⟩) := by
  refine ⟨fun ks n l ob => ?_, fun ks d k n l ob => ?_⟩
  · simp only [St.norm, St.forget, fgt_keep]
  · simp only [St.norm, St.forget, fgt_keep]

theorem keepR : (∀ i l, keepA [] i l = []) ∧ (∀ ks i l, keepA (true :: ks) i l = (i, lkA l i) :: keepA ks (i + 1) l) ∧ (∀ ks i l, keepA (false :: ks) i l = keepA ks (i + 1) l) :=
  ⟨fun _ _ => rfl, fun _ _ _ => rfl, fun _ _ _ => rfl⟩


theorem caR2 (T : Know) (K : KT) (objs : List Obj) (pt : Bool) :
    (∀ g args, callT T pt (.fn g [] []) args objs K = T.fn g args objs K) ∧
    (∀ g c, callT T pt (.fn g [] [c]) [] objs K = T.fn g [c] objs K) ∧
    (∀ g c a, callT T pt (.fn g [] [c]) [a] objs K = T.fn g [a, c] objs K) ∧
    (∀ g c a b, callT T pt (.fn g [] [c]) [a, b] objs K = T.fn g [a, b, c] objs K) ∧
    (∀ g c d a, callT T pt (.fn g [] [c, d]) [a] objs K = T.fn g [a, c, d] objs K) ∧
    (∀ g c d a b, callT T pt (.fn g [] [c, d]) [a, b] objs K = T.fn g [a, b, c, d] objs K) ∧
    (∀ l args, callT T pt (.yld l) args objs K = (l = T.y ∧ pt = true ∧ args.all PV.pure = true ∧ T.Y args objs fun b o => K (.bool b) o 2)) := by
  refine ⟨fun g args => ?_, fun _ _ => rfl, fun _ _ _ => rfl, fun _ _ _ _ => rfl, fun _ _ _ _ => rfl, fun _ _ _ _ _ => rfl, fun _ _ => rfl⟩
  simp [callT]

theorem taR3 (K : KT) (objs : List Obj) (args : List PV) (c : Ctr) (l : List (FuncId × Ctr)) (f : FuncId) :
    (tabF ((f, c) :: l) f args objs K = c args objs K) ∧ (∀ g, (f == g) = false → tabF ((g, c) :: l) f args objs K = tabF l f args objs K) := by
  refine ⟨by simp [tabF], fun g h => ?_⟩
  rw [taR, h]; rfl


@[congr] theorem builtinR_congr {D : TypeId → TInfo} {b : Builtin} {ats ats' : List TypeId} {args args' : List Operand} {ev : Operand → PV} {objs : List Obj} {K : KT} (h : ats = ats') (h1 : args = args') : builtinR D b ats args ev objs K = builtinR D b ats' args' ev objs K := by rw [h, h1]


theorem opsR2 (P : Program) (D : TypeId → TInfo) (T : Know) (w pt : Bool) (ev : Operand → PV) (objs : List Obj) (K : KT) :
    (∀ x, opT P D T w pt ev objs (.move x) K = K (ev x) objs 0) ∧ (∀ x, opT P D T w pt ev objs (.assign x) K = K (ev x) objs 0) ∧
    (∀ c x y, opT P D T w pt ev objs (.pick c x y) K = pickR (ev c) (ev x) (ev y) objs K) ∧
    (∀ t, opT P D T w pt ev objs (.alloc t) K = allocR t (D t) objs K) ∧
    (∀ t x, opT P D T w pt ev objs (.box t x) K = boxR t (D t) (ev x) objs K) ∧
    (∀ t ps, opT P D T w pt ev objs (.build t ps) K = buildR' D t (ps.toList.map fun x => (x.1, ev x.2)) objs K) ∧
    (∀ t n ps, opT P D T w pt ev objs (.buildSlice t n ps) K = buildSliceR D w t n (ps.toList.map fun x => (x.1, ev x.2)) objs K) ∧
    (∀ t x, opT P D T w pt ev objs (.load t x) K = loadR (D t) (ev x) objs K) ∧
    (∀ t x y, opT P D T w pt ev objs (.store t x y) K = storeR (D t) (ev x) (ev y) objs K) ∧
    (∀ x, opT P D T w pt ev objs (.nilCheck x) K = nilCheckR (ev x) objs K) ∧
    (∀ b t x y t', opT P D T w pt ev objs (.binOp b t x y t') K = binR P (D t) t b (ev x) (ev y) fun r => K r objs 0) ∧
    (∀ u t x, opT P D T w pt ev objs (.unOp u t x) K = unR u (ev x) fun r => K r objs 0) ∧
    (∀ s t x, opT P D T w pt ev objs (.convert s t x) K = convR (D s) (D t) (ev x) fun r => K r objs 0) ∧
    (∀ f first cap, opT P D T w pt ev objs (.makeFunc (.func f) first cap) K = makeFuncR f (first.toList.map ev) (cap.toList.map ev) objs K) ∧
    (∀ t l c, opT P D T w pt ev objs (.makeSlice t l c) K = makeSliceR D t (ev l) (ev c) objs K) ∧
    (∀ t x lo hi, opT P D T w pt ev objs (.slice t x lo hi none) K = sliceR D t (ev x) (lo.map ev) (hi.map ev) objs K) ∧
    (∀ t x f, opT P D T w pt ev objs (.fieldAddr t x f) K = fieldAddrR D t (ev x) f objs K) ∧
    (∀ t x f, opT P D T w pt ev objs (.field t x f) K = fieldR D t (ev x) f objs K) ∧
    (∀ t x i, opT P D T w pt ev objs (.indexAddr t x i) K = indexAddrR D t (ev x) (ev i) objs K) ∧
    (∀ t x i, opT P D T w pt ev objs (.index t x i) K = indexR D t (ev x) (ev i) objs K) ∧
    (∀ x i, opT P D T w pt ev objs (.extract x i) K = extractR (ev x) i objs K) ∧
    (∀ t x, opT P D T w pt ev objs (.call { callee := .builtin .len, args := ⟨[x]⟩, argTypes := ⟨[t]⟩ }) K = lenR D t (ev x) objs K) ∧
    (∀ t u s x, opT P D T w pt ev objs (.call { callee := .builtin .append, args := ⟨[s, x]⟩, argTypes := ⟨[t, u]⟩ }) K = appendR D t u (ev s) (ev x) objs K) ∧
    (∀ x y ats, opT P D T w pt ev objs (.call { callee := .builtin .max, args := ⟨[x, y]⟩, argTypes := ats }) K = minmaxR true [ev x, ev y] fun r => K r objs 0) ∧
    (∀ x y ats, opT P D T w pt ev objs (.call { callee := .builtin .min, args := ⟨[x, y]⟩, argTypes := ats }) K = minmaxR false [ev x, ev y] fun r => K r objs 0) ∧
    (∀ f args ats, opT P D T w pt ev objs (.call { callee := .value f, args := args, argTypes := ats }) K = callT T pt (ev f) (args.toList.map ev) objs K) :=
  ⟨fun _ => rfl, fun _ => rfl, fun _ _ _ => rfl, fun _ => rfl, fun _ _ => rfl, fun _ _ => rfl, fun _ _ _ => rfl, fun _ _ => rfl, fun _ _ _ => rfl, fun _ => rfl, fun _ _ _ _ _ => rfl, fun _ _ _ => rfl, fun _ _ _ => rfl,
   fun _ _ _ => rfl, fun _ _ _ => rfl, fun _ _ _ _ => rfl, fun _ _ _ => rfl, fun _ _ _ => rfl, fun _ _ _ => rfl, fun _ _ _ => rfl, fun _ _ => rfl, fun _ _ => rfl, fun _ _ _ _ => rfl, fun _ _ _ => rfl, fun _ _ _ => rfl, fun _ _ _ => rfl⟩


theorem exS2 {α β : Type} (a : α) (q : α → β → Prop) : (∃ o e, some a = some o ∧ q o e) = ∃ e, q a e := by simp

theorem setRow {α : Type} {enc : α → PV} (h : ∀ x y : α, (enc x).putCells 0 (enc y).cells = enc y) (l : List α) (i : Nat) (x y : α) : (l.map enc).set i ((enc x).putCells 0 (enc y).cells) = (l.set i y).map enc := by
  rw [h, List.map_set]


/-- The steps of a region; states stay in their form. -/
theorem lrR3 (P : Program) (D : TypeId → TInfo) (T : Know) :
    (∀ S ts (K : St → List Nat → Prop), LR P D T [] S ts K = K S ts) ∧
    (∀ d o w rest n l ob ts (K : St → List Nat → Prop), LR P D T (⟨some d, o, none, w⟩ :: rest) ⟨tmA n l, ob⟩ ts K =
      opT P D T w ((tmA n l).all PV.pure) (St.ev ⟨tmA n l, ob⟩) ob o fun r objs' t => LR P D T rest ⟨tmA n ((d, r) :: l), objs'⟩ (ts ++ [t]) K) ∧
    (∀ o w rest n l ob ts (K : St → List Nat → Prop), LR P D T (⟨none, o, none, w⟩ :: rest) ⟨tmA n l, ob⟩ ts K =
      opT P D T w ((tmA n l).all PV.pure) (St.ev ⟨tmA n l, ob⟩) ob o fun r objs' t => LR P D T rest ⟨tmA n l, objs'⟩ (ts ++ [t]) K) ∧
    (∀ d o g v w rest n l ob ts (K : St → List Nat → Prop), LR P D T (⟨some d, o, some (some g, v), w⟩ :: rest) ⟨tmA n l, ob⟩ ts K =
      guardV ((tmA n l).getD g .dead) g v ⟨tmA n l, ob⟩ (fun S => LR P D T (⟨some d, o, none, w⟩ :: rest) S ts K) (fun S => LR P D T rest (S.put (some d) (.tup [])) (ts ++ [0]) K)) ∧
    (∀ o g v w rest n l ob ts (K : St → List Nat → Prop), LR P D T (⟨none, o, some (some g, v), w⟩ :: rest) ⟨tmA n l, ob⟩ ts K =
      guardV ((tmA n l).getD g .dead) g v ⟨tmA n l, ob⟩ (fun S => LR P D T (⟨none, o, none, w⟩ :: rest) S ts K) (fun S => LR P D T rest S (ts ++ [0]) K)) := by
  refine ⟨fun _ _ _ => rfl, fun d o w rest n l ob ts K => ?_, fun o w rest n l ob ts K => rfl, fun d o g v w rest n l ob ts K => rfl, fun o g v w rest n l ob ts K => rfl⟩
  simp only [← taR2.1]
  rfl

theorem guR3 :
    (∀ b d n l ob (X Y : St → Prop), guardV (.bool b) d true ⟨tmA n l, ob⟩ X Y = ifP b (X ⟨tmA n ((d, .bool true) :: l), ob⟩) (Y ⟨tmA n ((d, .bool false) :: l), ob⟩)) ∧
    (∀ b d n l ob (X Y : St → Prop), guardV (.bool b) d false ⟨tmA n l, ob⟩ X Y = ifP b (Y ⟨tmA n ((d, .bool true) :: l), ob⟩) (X ⟨tmA n ((d, .bool false) :: l), ob⟩)) ∧
    (∀ d w (S : St) (X Y : St → Prop), guardV (.tup []) d w S X Y = Y S) := by
  refine ⟨fun b d n l ob X Y => ?_, fun b d n l ob X Y => ?_, fun _ _ _ _ _ => rfl⟩
  · simp only [guR2, taR2.1]
  · simp only [guR2, taR2.1]

/-- Putting, straight. -/
theorem putR3 : (∀ n l ob d p, St.put ⟨tmA n l, ob⟩ (some d) p = ⟨tmA n ((d, p) :: l), ob⟩) := fun n l ob d p => by
  rw [← taR2.1]; rfl


/-- As FnOk.pure, for one result; what is asked at the end cannot be unfolded (the kernel would, and be lost). -/
theorem FnOk.pureG {P : Program} {D : TypeId → TInfo} {T : Know} {f : FuncId} {n t : Nat} {C : LC} {args : List PV} {r : PV} (h : FnOk P f n [.tmp t] C) (d : Nat) (hD : ∀ t, TOk P t (D t)) (hT : KOk P none Etop T) (hm : P.follows .mixedOrders = true) (ht : t < n)
    (hw : ∀ Q : Exit → St → Prop, (∀ l ob, Q .ret ⟨tmA n l, ob⟩ = (r = frzT d 0 ob (lkA l t))) → wpc P D T C Q (startS args n)) : FnSpec P f args [] r [] := by
  refine h.pure d hD hT hm (by simp) (hw _ fun l ob => ?_)
  simp only [retR, outL, taR2.2.1 n l t ht, List.map_cons, List.map_nil, onePV]

theorem FnOk.pureG2 {P : Program} {D : TypeId → TInfo} {T : Know} {f : FuncId} {n t u : Nat} {C : LC} {args : List PV} {r : PV} (h : FnOk P f n [.tmp t, .tmp u] C) (d : Nat) (hD : ∀ t, TOk P t (D t)) (hT : KOk P none Etop T) (hm : P.follows .mixedOrders = true) (ht : t < n) (hu : u < n)
    (hw : ∀ Q : Exit → St → Prop, (∀ l ob, Q .ret ⟨tmA n l, ob⟩ = (r = .tup [frzT d 0 ob (lkA l t), frzT d 0 ob (lkA l u)])) → wpc P D T C Q (startS args n)) : FnSpec P f args [] r [] := by
  refine h.pure d hD hT hm (by simp) (hw _ fun l ob => ?_)
  simp only [retR, outL, taR2.2.1 n l t ht, taR2.2.1 n l u hu, List.map_cons, List.map_nil, onePV]

/-- Which of two a decided bool picks. -/
theorem pkR (x y : PV) (objs : List Obj) (K : KT) : (pickR (.bool true) x y objs K = K x objs 0) ∧ (pickR (.bool false) x y objs K = K y objs 0) := ⟨rfl, rfl⟩

/-! ### All rules, in bundles: ahead of what lies inside, and behind -/

theorem preZ :
    type_of% @wpR ∧
    type_of% @knR ∧
    type_of% @kiR ∧
    type_of% @lrR3 ∧
    type_of% @exR2 ∧
    type_of% @guR3 ∧
    type_of% @putR3 ∧
    type_of% @hoR ∧
    type_of% @ifR ∧
    type_of% @opsR2 ∧
    type_of% @taR3 ∧
    type_of% @builtinR' ∧
    type_of% @biI ∧
    type_of% @exmap ∧
    type_of% @exi ∧
    type_of% @exi2 ∧
    type_of% @srcK ∧
    type_of% @skR ∧
    type_of% @atR ∧
    type_of% @exS ∧
    type_of% @exS2 :=
  ⟨@wpR, @knR, @kiR, @lrR3, @exR2, @guR3, @putR3, @hoR, @ifR, @opsR2, @taR3, @builtinR', @biI, @exmap, @exi, @exi2, @srcK, @skR, @atR, @exS, @exS2⟩

theorem postZ :
    type_of% @knR ∧
    type_of% @kiR ∧
    type_of% @lkR ∧
    type_of% @taR2 ∧
    type_of% @startA ∧
    type_of% @guR3 ∧
    type_of% @ifR ∧
    type_of% @stR2 ∧
    type_of% @retR ∧
    type_of% @retMR ∧
    type_of% @frR ∧
    type_of% @fzR ∧
    type_of% @tmR ∧
    type_of% @normR ∧
    type_of% @keepR ∧
    type_of% @caR2 ∧
    type_of% @taR3 ∧
    type_of% @builtinR' ∧
    type_of% @pkR ∧
    type_of% @biR ∧
    type_of% @biI ∧
    type_of% @inRR ∧
    type_of% @obR ∧
    type_of% @agR ∧
    type_of% @subR ∧
    type_of% @isR ∧
    type_of% @alR ∧
    type_of% @genR ∧
    type_of% @ldR ∧
    type_of% @srcK ∧
    type_of% @skR ∧
    type_of% @ntR ∧
    type_of% @atR ∧
    type_of% @stoR ∧
    type_of% @puR ∧
    type_of% @mapApp ∧
    type_of% @rowA1 :=
  ⟨@knR, @kiR, @lkR, @taR2, @startA, @guR3, @ifR, @stR2, @retR, @retMR, @frR, @fzR, @tmR, @normR, @keepR, @caR2, @taR3, @builtinR', @pkR, @biR, @biI, @inRR, @obR, @agR, @subR, @isR, @alR, @genR, @ldR, @srcK, @skR, @ntR, @atR, @stoR, @puR, @mapApp, @rowA1⟩

theorem coreZ :
    type_of% @decide_true ∧
    type_of% @decide_false ∧
    type_of% @not_true_eq_false ∧
    type_of% @not_false_eq_true ∧
    type_of% @false_and ∧
    type_of% @and_false ∧
    type_of% @cond_true.{1} ∧
    type_of% @cond_false.{1} ∧
    type_of% @List.take_zero.{0} ∧
    type_of% @ne_eq.{1} ∧
    type_of% @true_and ∧
    type_of% @PV.bool.injEq ∧
    type_of% @Int.toNat_natCast ∧
    type_of% @Int.toNat_zero ∧
    type_of% @Bool.not_false ∧
    type_of% @Bool.not_true ∧
    type_of% @Bool.and_self ∧
    type_of% @Bool.false_eq_true ∧
    type_of% @Bool.true_eq_false ∧
    type_of% @forall_const.{1} ∧
    type_of% @false_implies ∧
    type_of% @true_implies ∧
    type_of% @and_true ∧
    type_of% @implies_true.{1} ∧
    type_of% @implies_true.{0} ∧
    type_of% @forall_const.{0} ∧
    type_of% @Nat.zero_add ∧
    type_of% @List.length_map.{0,0} ∧
    type_of% @List.length_cons.{0} ∧
    type_of% @List.length_nil.{0} ∧
    type_of% @List.nil_append.{0} ∧
    type_of% @List.map_cons.{0,0} ∧
    type_of% @List.map_nil.{0,0} ∧
    type_of% @Bool.true_or ∧
    type_of% @List.getElem?_cons_zero.{0} ∧
    type_of% @List.getElem?_cons_succ.{0} ∧
    type_of% @Option.map_some.{0,0} ∧
    type_of% @or_true ∧
    type_of% @List.getElem?_map.{0,0} ∧
    type_of% @List.length_replicate.{0} ∧
    type_of% @List.all_cons.{0} ∧
    type_of% @List.all_nil.{0} ∧
    type_of% @Bool.and_true ∧
    type_of% @Bool.true_and ∧
    type_of% @Bool.false_or ∧
    type_of% @Bool.or_false ∧
    type_of% @Nat.le_refl ∧
    type_of% @Nat.lt_add_one ∧
    type_of% @List.length_append.{0} :=
  ⟨@decide_true, @decide_false, @not_true_eq_false, @not_false_eq_true, @false_and, @and_false, @cond_true.{1}, @cond_false.{1}, @List.take_zero.{0}, @ne_eq.{1}, @true_and, @PV.bool.injEq, @Int.toNat_natCast, @Int.toNat_zero, @Bool.not_false, @Bool.not_true, @Bool.and_self, @Bool.false_eq_true, @Bool.true_eq_false, @forall_const.{1}, @false_implies, @true_implies, @and_true, @implies_true.{1}, @implies_true.{0}, @forall_const.{0}, @Nat.zero_add, @List.length_map.{0,0}, @List.length_cons.{0}, @List.length_nil.{0}, @List.nil_append.{0}, @List.map_cons.{0,0}, @List.map_nil.{0,0}, @Bool.true_or, @List.getElem?_cons_zero.{0}, @List.getElem?_cons_succ.{0}, @Option.map_some.{0,0}, @or_true, @List.getElem?_map.{0,0}, @List.length_replicate.{0}, @List.all_cons.{0}, @List.all_nil.{0}, @Bool.and_true, @Bool.true_and, @Bool.false_or, @Bool.or_false, @Nat.le_refl, @Nat.lt_add_one, @List.length_append.{0}⟩

end Lp

/-! LpEq -/

namespace Lp
open Go

variable {P : Program}

/-- A field of such a type, and cells that fit it. -/
def fitT : Option TypeDesc → PV → PV → Bool
  | some (.int k), .int k1 _, .int k2 _ => decide (k1 = k2)
  | some .bool, .bool _, .bool _ => true
  | some .string, .str _, .str _ => true
  | _, _, _ => false

def fitF (P : Program) : Nat → List Field → List PV → List PV → Bool
  | _, [], [], [] => true
  | k, f :: fs, p :: aa, q :: bs => (f.name != "_") && f.offset == k && fitT (P.underlying f.type) p q && fitF P (k + 1) fs aa bs
  | _, _, _, _ => false

theorem part_run {w : World} {t : TypeId} {xs : Array Value} {o : Nat} {v : Value} {d : TypeDesc} (hu : P.underlying t = some d) (hd : (∃ k, d = .int k) ∨ d = .bool ∨ d = .string) (hv : xs[o]? = some v) : (part t xs o).run P w = .ok v w := by
  rcases hd with ⟨k, rfl⟩ | rfl | rfl
  all_goals simp [part, isAgg, run_underlying hu, hv]

theorem eq_run {w : World} {d : Nat} {t : TypeId} {p q : PV} {v u : Value} {ok : Nat → Prop} (hf : fitT (P.underlying t) p q = true) (hv : Rep w ok p v) (hu : Rep w ok q u) :
    ∃ b, eqS p q = some b ∧ (Op.equalIn (d + 1) t v u).run P w = .ok b w ∧ ∃ e, P.underlying t = some e ∧ ((∃ k, e = .int k) ∨ e = .bool ∨ e = .string) := by
  unfold fitT at hf
  split at hf
  · rename_i k k1 a k2 b hk
    have : k1 = k2 := by simpa using hf
    subst this
    cases hv; cases hu
    exact ⟨decide (a = b), by simp [eqS], by rw [run_equalIn_int w d t k1 k a b hk]; rfl, _, hk, .inl ⟨_, rfl⟩⟩
  · rename_i a b hk
    cases hv; cases hu
    exact ⟨a == b, rfl, run_equalIn_bool' w d t a b hk, _, hk, .inr (.inl rfl)⟩
  · rename_i a b hk
    cases hv; cases hu
    refine ⟨decide (a = b), rfl, ?_, _, hk, .inr (.inr rfl)⟩
    rw [run_equalIn_string w d t _ _ hk]
    congr 1
    simp only [ByteArray.toList_eq]
    by_cases h : a = b
    · simp [h]
    · simp [h]
  · cases hf

theorem eqF_run {w : World} {d : Nat} {ok : Nat → Prop} {xs ys : Array Value} : ∀ (fs : List Field) (k : Nat) (aa bs : List PV) (r : Bool), fitF P k fs aa bs = true → eqL aa bs = some r →
    (∀ i p, aa[i]? = some p → ∃ v, xs[k + i]? = some v ∧ Rep w ok p v) → (∀ i p, bs[i]? = some p → ∃ v, ys[k + i]? = some v ∧ Rep w ok p v) →
    (Op.eqFields (d + 1) xs ys fs).run P w = .ok r w
  | [], k, aa, bs, r, hf, he, _, _ => by
    cases aa <;> cases bs <;> simp [fitF] at hf
    simp only [eqL, Option.some.injEq] at he
    subst he
    rfl
  | f :: fs, k, aa, bs, r, hf, he, ha, hb => by
    cases aa with
    | nil => cases bs <;> simp [fitF] at hf
    | cons p aa =>
      cases bs with
      | nil => simp [fitF] at hf
      | cons q bs =>
        simp only [fitF, Bool.and_eq_true, beq_iff_eq, bne_iff_ne] at hf
        obtain ⟨⟨⟨hn, ho⟩, ht⟩, hr⟩ := hf
        obtain ⟨v, hv, rv⟩ := ha 0 p rfl
        obtain ⟨u, hu, ru⟩ := hb 0 q rfl
        obtain ⟨b, hb1, hb2, e, he1, he2⟩ := eq_run (d := d) ht rv ru
        simp only [eqL, hb1] at he
        cases hq : eqL aa bs with
        | none => rw [hq] at he; simp at he
        | some r' =>
          rw [hq] at he
          simp only [Option.some.injEq] at he
          subst he
          have ih := eqF_run (w := w) (d := d) (ok := ok) (xs := xs) (ys := ys) fs (k + 1) aa bs r' hr hq (fun i p h => by have := ha (i + 1) p (by simpa using h); rwa [show k + (i + 1) = k + 1 + i by omega] at this) (fun i p h => by have := hb (i + 1) p (by simpa using h); rwa [show k + (i + 1) = k + 1 + i by omega] at this)
          have p1 := part_run (w := w) (xs := xs) (o := f.offset) he1 he2 (by rw [ho]; simpa using hv)
          have p2 := part_run (w := w) (xs := ys) (o := f.offset) he1 he2 (by rw [ho]; simpa using hu)
          simp only [Op.eqFields, ne_eq, hn, not_false_eq_true, if_true, Sem.run_bind, p1, Result.andThen_ok, p2, hb2]
          cases b
          · simp
          · simpa using ih

theorem eqOk_of {t : TypeId} {aa bs : List PV} (hg : P.eqGuardType P.depth t = false) (ht : P.underlying t = some (.struct (P.fieldsOf t))) (hp : P.stoodInHeld t = false) (hf : fitF P 0 (P.fieldsOf t).toList aa bs = true) : EqOk P t aa bs := by
  refine ⟨hg, fun w ok vs us r hr h1 h2 => ?_⟩
  have e : Op.equal t (.agg ⟨vs⟩) (.agg ⟨us⟩) = Op.equalIn (9999 + 1) t (.agg ⟨vs⟩) (.agg ⟨us⟩) := rfl
  rw [e, run_equalIn_struct w 9999 t _ _ ht hp]
  refine eqF_run (d := 9998) (ok := ok) _ 0 aa bs r hf hr ?_ ?_
  · intro i p hi
    have hlt := (List.getElem?_eq_some_iff.1 hi).1
    have hv : vs[i]? = some (vs[i]'(by rw [← h1.1]; exact hlt)) := List.getElem?_eq_getElem _
    exact ⟨_, by simpa using hv, h1.2 i p _ hi hv⟩
  · intro i p hi
    have hlt := (List.getElem?_eq_some_iff.1 hi).1
    have hv : us[i]? = some (us[i]'(by rw [← h2.1]; exact hlt)) := List.getElem?_eq_getElem _
    exact ⟨_, by simpa using hv, h2.2 i p _ hi hv⟩

end Lp

/-! LpU2 -/

namespace Lp
open Go Go.Proofs

def encT (l : List (List UInt8)) : PV := .sl 1 (l.map .str) none
def encL (l : List Vl) : PV := .sl 1 (l.map encV) none
def encI (l : List Int) : PV := .sl 1 (l.map (.int .i64)) none
def encG (l : List (List Int)) : PV := .sl 1 (l.map encI) none

theorem hV : ∀ l, encV l = .sl 6 (l.map encN) none := fun _ => rfl
theorem hT : ∀ l, encT l = .sl 1 (l.map .str) none := fun _ => rfl
theorem hL : ∀ l, encL l = .sl 1 (l.map encV) none := fun _ => rfl
theorem hI : ∀ l, encI l = .sl 1 (l.map (.int .i64)) none := fun _ => rfl
theorem hG : ∀ l, encG l = .sl 1 (l.map encI) none := fun _ => rfl

theorem encN_inj : ∀ a b, encN a = encN b → a = b := by
  intro a b h
  cases a; cases b
  simp only [encN, PV.agg.injEq, List.cons.injEq, PV.int.injEq, PV.str.injEq, PV.bool.injEq, true_and, and_true] at h
  obtain ⟨rfl, rfl, rfl, rfl, rfl, rfl⟩ := h
  rfl
theorem encV_inj : ∀ a b, encV a = encV b → a = b := row_inj hV encN_inj
theorem encT_inj : ∀ a b, encT a = encT b → a = b := row_inj hT fun _ _ h => by injection h
theorem encI_inj : ∀ a b, encI a = encI b → a = b := row_inj hI fun _ _ h => by injection h
theorem encL_inj : ∀ a b, encL a = encL b → a = b := row_inj hL encV_inj
theorem encG_inj : ∀ a b, encG a = encG b → a = b := row_inj hG encI_inj

theorem nodeR (objs : List Obj) (K : KT) :
    (∀ n, fieldAddrR D t_api_Node (.addr (encN n)) 0 objs K = K (.addr (.int .i64 n.kind)) objs 0) ∧
    (∀ n, fieldAddrR D t_api_Node (.addr (encN n)) 1 objs K = K (.addr (.int .i64 n.many)) objs 0) ∧
    (∀ n, fieldAddrR D t_api_Node (.addr (encN n)) 2 objs K = K (.addr (.str n.name)) objs 0) ∧
    (∀ n, fieldAddrR D t_api_Node (.addr (encN n)) 3 objs K = K (.addr (.str n.s)) objs 0) ∧
    (∀ n, fieldAddrR D t_api_Node (.addr (encN n)) 4 objs K = K (.addr (.bool n.neg)) objs 0) ∧
    (∀ n, fieldAddrR D t_api_Node (.addr (encN n)) 5 objs K = K (.addr (.int .i64 n.e)) objs 0) := by
  refine ⟨fun n => ?_, fun n => ?_, fun n => ?_, fun n => ?_, fun n => ?_, fun n => ?_⟩
  all_goals
    simp only [encN, fieldAddrR, fieldOf, D_all, ↓exi, agR, subR, tmR, isR, alR, ne_eq, reduceCtorEq, not_false_eq_true, true_and, Bool.not_false, Bool.and_self, Nat.reduceAdd, Nat.reduceLeDiff, forall_const]

theorem nodeC :
    (∀ n, (encN n).cells = [.int .i64 n.kind, .int .i64 n.many, .str n.name, .str n.s, .bool n.neg, .int .i64 n.e]) ∧
    (∀ n, (encN n).isAgg = true) ∧ (∀ n, (encN n).pure = true) ∧ (∀ d m O n, frz d m O (encN n) = encN n) ∧ (∀ d m O n, frzT d m O (encN n) = encN n) :=
  ⟨fun _ => rfl, fun _ => rfl, fun _ => rfl, fun _ _ _ _ => rfl, fun _ _ _ _ => rfl⟩

theorem eqOkN (a b : Nd) : EqOk Try.prog t_api_Node (encN a).cells (encN b).cells :=
  eqOk_of (by kernel_rfl) (by kernel_rfl) (by kernel_rfl) (by
    have h : (Try.prog.fieldsOf t_api_Node).toList.map (fun f => (f.name != "_", f.offset, Try.prog.underlying f.type)) = [(true, 0, some (.int .i64)), (true, 1, some (.int .i64)), (true, 2, some .string), (true, 3, some .string), (true, 4, some .bool), (true, 5, some (.int .i64))] := by kernel_rfl
    generalize (Try.prog.fieldsOf t_api_Node).toList = fs at h
    obtain _ | ⟨f0, _ | ⟨f1, _ | ⟨f2, _ | ⟨f3, _ | ⟨f4, _ | ⟨f5, _ | ⟨f6, fr⟩⟩⟩⟩⟩⟩⟩ := fs
    all_goals simp only [List.map_cons, List.map_nil, List.cons.injEq, Prod.mk.injEq, and_true, reduceCtorEq, and_false] at h
    obtain ⟨⟨a0, b0, c0⟩, ⟨a1, b1, c1⟩, ⟨a2, b2, c2⟩, ⟨a3, b3, c3⟩, ⟨a4, b4, c4⟩, ⟨a5, b5, c5⟩⟩ := h
    simp only [fitF, fitT, encN, PV.cells, a0, b0, c0, a1, b1, c1, a2, b2, c2, a3, b3, c3, a4, b4, c4, a5, b5, c5, Bool.and_true, BEq.rfl, decide_true, Nat.zero_add, Nat.reduceAdd])

theorem eqLN (a b : Nd) : eqL (encN a).cells (encN b).cells = some (decide (a = b)) := by
  cases a; cases b
  simp only [encN, PV.cells, eqL, eqS, if_true, Bool.and_true, Nd.mk.injEq, Option.some.injEq]
  rw [Bool.eq_iff_iff]
  simp

theorem nodeEq (ti : TInfo) (K : PV → Prop) :
    (∀ a b, binR Try.prog ti t_api_Node .eql (encN a) (encN b) K = K (.bool (decide (a = b)))) ∧
    (∀ a b, binR Try.prog ti t_api_Node .neq (encN a) (encN b) K = K (.bool (!decide (a = b)))) ∧
    (∀ a k m x y g e, binR Try.prog ti t_api_Node .eql (encN a) (.agg [.int .i64 k, .int .i64 m, .str x, .str y, .bool g, .int .i64 e]) K = K (.bool (decide (a = ⟨k, m, x, y, g, e⟩)))) := by
  have h : ∀ a b, binR Try.prog ti t_api_Node .eql (encN a) (encN b) K = K (.bool (decide (a = b))) := fun a b => by
    show (EqOk Try.prog t_api_Node (encN a).cells (encN b).cells ∧ ∃ r, eqL (encN a).cells (encN b).cells = some r ∧ K (.bool r)) = _
    rw [eqLN]
    simp [eqOkN]
  refine ⟨h, fun a b => ?_, fun a k m x y g e => h a ⟨k, m, x, y, g, e⟩⟩
  show (EqOk Try.prog t_api_Node (encN a).cells (encN b).cells ∧ ∃ r, eqL (encN a).cells (encN b).cells = some r ∧ K (.bool (!r))) = _
  rw [eqLN]
  simp [eqOkN]

theorem nodeP (n : Nd) :
    (∀ x, (encN n).putCells 0 [.int .i64 x] = encN { n with kind := x }) ∧ (∀ x, (encN n).putCells 1 [.int .i64 x] = encN { n with many := x }) ∧
    (∀ x, (encN n).putCells 2 [.str x] = encN { n with name := x }) ∧ (∀ x, (encN n).putCells 3 [.str x] = encN { n with s := x }) ∧
    (∀ x, (encN n).putCells 4 [.bool x] = encN { n with neg := x }) ∧ (∀ x, (encN n).putCells 5 [.int .i64 x] = encN { n with e := x }) :=
  ⟨fun _ => rfl, fun _ => rfl, fun _ => rfl, fun _ => rfl, fun _ => rfl, fun _ => rfl⟩

/-- Nodes are folded again. -/
theorem nodeF (k m : Int) (x y : List UInt8) (g : Bool) (e : Int) : PV.agg [.int .i64 k, .int .i64 m, .str x, .str y, .bool g, .int .i64 e] = encN ⟨k, m, x, y, g, e⟩ := rfl

theorem nodeB (objs : List Obj) (K : KT) :
    (∀ k, buildR' D t_api_Node [(0, .int .i64 k)] objs K = K (encN ⟨k, 0, [], [], false, 0⟩) objs 0) ∧
    (∀ k m, buildR' D t_api_Node [(0, .int .i64 k), (1, .int .i64 m)] objs K = K (encN ⟨k, m, [], [], false, 0⟩) objs 0) ∧
    (∀ k s, buildR' D t_api_Node [(0, .int .i64 k), (3, .str s)] objs K = K (encN ⟨k, 0, [], s, false, 0⟩) objs 0) ∧
    (∀ k s g e, buildR' D t_api_Node [(0, .int .i64 k), (3, .str s), (4, .bool g), (5, .int .i64 e)] objs K = K (encN ⟨k, 0, [], s, g, e⟩) objs 0) := by
  have z : zeroElem (D t_api_Node) = encN ⟨0, 0, [], [], false, 0⟩ := by kernel_rfl
  have a : (D t_api_Node).agg = true := by kernel_rfl
  simp only [D_all] at z a
  refine ⟨fun k => ?_, fun k m => ?_, fun k s => ?_, fun k s g e => ?_⟩
  all_goals
    simp [buildR', buildR, a, z, D_all, fillR, encN, PV.isAgg, partOk, PV.cells, PV.storable, PV.solid, PV.pure]

/-- Literals, folded. -/
theorem foldS :
    (∀ n0, PV.sl 6 [encN n0] none = encV [n0]) ∧
    (∀ n0 n1, PV.sl 6 [encN n0, encN n1] none = encV [n0, n1]) ∧
    (∀ n0 n1 n2, PV.sl 6 [encN n0, encN n1, encN n2] none = encV [n0, n1, n2]) ∧
    (∀ s0, PV.sl 1 [PV.str s0] none = encT [s0]) ∧
    (∀ s0 s1, PV.sl 1 [PV.str s0, PV.str s1] none = encT [s0, s1]) ∧
    (∀ s0 s1 s2, PV.sl 1 [PV.str s0, PV.str s1, PV.str s2] none = encT [s0, s1, s2]) ∧
    (∀ i0, PV.sl 1 [PV.int .i64 i0] none = encI [i0]) ∧
    (∀ i0 i1, PV.sl 1 [PV.int .i64 i0, PV.int .i64 i1] none = encI [i0, i1]) ∧
    (∀ i0 i1 i2, PV.sl 1 [PV.int .i64 i0, PV.int .i64 i1, PV.int .i64 i2] none = encI [i0, i1, i2]) ∧
    (∀ v0, PV.sl 1 [encV v0] none = encL [v0]) ∧
    (∀ v0 v1, PV.sl 1 [encV v0, encV v1] none = encL [v0, v1]) ∧
    (∀ v0 v1 v2, PV.sl 1 [encV v0, encV v1, encV v2] none = encL [v0, v1, v2]) ∧
    (∀ g0, PV.sl 1 [encI g0] none = encG [g0]) ∧
    (∀ g0 g1, PV.sl 1 [encI g0, encI g1] none = encG [g0, g1]) ∧
    (∀ g0 g1 g2, PV.sl 1 [encI g0, encI g1, encI g2] none = encG [g0, g1, g2]) :=
  ⟨fun _ => rfl, fun _ _ => rfl, fun _ _ _ => rfl, fun _ => rfl, fun _ _ => rfl, fun _ _ _ => rfl, fun _ => rfl, fun _ _ => rfl, fun _ _ _ => rfl, fun _ => rfl, fun _ _ => rfl, fun _ _ _ => rfl, fun _ => rfl, fun _ _ => rfl, fun _ _ _ => rfl⟩

theorem inN : Inert encN := by intro d n o x; cases d <;> rfl
theorem inV : Inert encV := by intro d n o x; cases d <;> rfl
theorem inS : Inert PV.str := by intro d n o x; cases d <;> rfl
theorem inI : Inert (PV.int .i64) := by intro d n o x; cases d <;> rfl
theorem inB : Inert PV.bool := by intro d n o x; cases d <;> rfl
theorem inG : Inert encI := by intro d n o x; cases d <;> rfl

/-! ### All rules on values, in bundles -/

theorem preU :
    type_of% (rowS hV) ∧
    type_of% (rowS hT) ∧
    type_of% (rowS hL) ∧
    type_of% (rowS hI) ∧
    type_of% (rowS hG) ∧
    type_of% (ofE_inj encN_inj) ∧
    type_of% (ofE_inj encV_inj) ∧
    type_of% (ofE_inj encT_inj) ∧
    type_of% (ofE_inj encL_inj) ∧
    type_of% (ofE_inj encI_inj) ∧
    type_of% (ofE_inj encG_inj) :=
  ⟨rowS hV, rowS hT, rowS hL, rowS hI, rowS hG, ofE_inj encN_inj, ofE_inj encV_inj, ofE_inj encT_inj, ofE_inj encL_inj, ofE_inj encI_inj, ofE_inj encG_inj⟩

theorem postU :
    type_of% (nodeR) ∧
    type_of% (nodeC) ∧
    type_of% (nodeEq) ∧
    type_of% (nodeP) ∧
    type_of% (nodeF) ∧
    type_of% (nodeB) ∧
    type_of% (foldS) ∧
    type_of% (rowR hV) ∧
    type_of% (rowR hT) ∧
    type_of% (rowR hL) ∧
    type_of% (rowR hI) ∧
    type_of% (rowR hG) ∧
    type_of% (rowS hV) ∧
    type_of% (rowS hT) ∧
    type_of% (rowS hL) ∧
    type_of% (rowS hI) ∧
    type_of% (rowS hG) ∧
    type_of% (rowC hV) ∧
    type_of% (rowC hT) ∧
    type_of% (rowC hL) ∧
    type_of% (rowC hI) ∧
    type_of% (rowC hG) ∧
    type_of% (ofE_inj encN_inj) ∧
    type_of% (ofE_inj encV_inj) ∧
    type_of% (ofE_inj encT_inj) ∧
    type_of% (ofE_inj encL_inj) ∧
    type_of% (ofE_inj encI_inj) ∧
    type_of% (ofE_inj encG_inj) ∧
    type_of% (frzRow hV inN) ∧
    type_of% (frzRow hT inS) ∧
    type_of% (frzRow hL inV) ∧
    type_of% (frzRow hI inI) ∧
    type_of% (frzRow hG inG) ∧
    type_of% (rowA (enc := encN) (sz := 6) (fun _ => rfl) (fun _ => rfl)) ∧
    type_of% (rowA (enc := encV) (sz := 1) (fun _ => rfl) (fun _ => rfl)) ∧
    type_of% (rowA (enc := PV.str) (sz := 1) (fun _ => rfl) (fun _ => rfl)) ∧
    type_of% (rowA (enc := (PV.int .i64)) (sz := 1) (fun _ => rfl) (fun _ => rfl)) ∧
    type_of% (rowA (enc := encI) (sz := 1) (fun _ => rfl) (fun _ => rfl)) ∧
    type_of% (rowA (enc := PV.bool) (sz := 1) (fun _ => rfl) (fun _ => rfl)) ∧
    type_of% (fun (l : Vl) (k : Nat) => neO (encV l) rfl k) ∧
    type_of% (fun (l : List (List UInt8)) (k : Nat) => neO (encT l) rfl k) ∧
    type_of% (fun (l : List Vl) (k : Nat) => neO (encL l) rfl k) ∧
    type_of% (fun (l : List Int) (k : Nat) => neO (encI l) rfl k) ∧
    type_of% (fun (l : List (List Int)) (k : Nat) => neO (encG l) rfl k) ∧
    type_of% (fun (z : Nat) (xs : List PV) (q : Option Bool) (k : Nat) => neO (.sl z xs q) rfl k) :=
  ⟨nodeR, nodeC, nodeEq, nodeP, nodeF, nodeB, foldS, rowR hV, rowR hT, rowR hL, rowR hI, rowR hG, rowS hV, rowS hT, rowS hL, rowS hI, rowS hG, rowC hV, rowC hT, rowC hL, rowC hI, rowC hG, ofE_inj encN_inj, ofE_inj encV_inj, ofE_inj encT_inj, ofE_inj encL_inj, ofE_inj encI_inj, ofE_inj encG_inj, frzRow hV inN, frzRow hT inS, frzRow hL inV, frzRow hI inI, frzRow hG inG, rowA (enc := encN) (sz := 6) (fun _ => rfl) (fun _ => rfl), rowA (enc := encV) (sz := 1) (fun _ => rfl) (fun _ => rfl), rowA (enc := PV.str) (sz := 1) (fun _ => rfl) (fun _ => rfl), rowA (enc := (PV.int .i64)) (sz := 1) (fun _ => rfl) (fun _ => rfl), rowA (enc := encI) (sz := 1) (fun _ => rfl) (fun _ => rfl), rowA (enc := PV.bool) (sz := 1) (fun _ => rfl) (fun _ => rfl), fun (l : Vl) (k : Nat) => neO (encV l) rfl k, fun (l : List (List UInt8)) (k : Nat) => neO (encT l) rfl k, fun (l : List Vl) (k : Nat) => neO (encL l) rfl k, fun (l : List Int) (k : Nat) => neO (encI l) rfl k, fun (l : List (List Int)) (k : Nat) => neO (encG l) rfl k, fun (z : Nat) (xs : List PV) (q : Option Bool) (k : Nat) => neO (.sl z xs q) rfl k⟩

end Lp

/-! LpW1 -/

namespace Lp
open Go Go.Proofs

set_option maxHeartbeats 1000000
set_option linter.unusedSimpArgs false

theorem behind_spec (v : Vl) (i c : Nat) (hv : v.length ≤ 4611686018427387904) (h : skip (v.drop i) 1 = some c) : FnSpec Try.prog f_val_behind [encV v, .int .i64 i] [] (.int .i64 (i + c : Nat)) [] := by
  refine k_val_behind.pure (T := tabL Try.prog []) 0 hD (kOk_tabL tabOk_nil) hmix (by decide) ?_
  simp only [c_val_behind, ↓wpR, knR, ↓lrR, ↓exR, ↓guR, stR, ↓opsR, retR, outL, onePV, frR, Nat.reduceAdd, Nat.reduceSub, tmR, D_all, biR, biI, inRR]
  refine wpc_loop (fun m S => ∃ (j k c' : Nat), m = c' ∧ skip (v.drop j) k = some c' ∧ j + c' = i + c ∧ S = ⟨mkT 19 [(0, encV v), (1, .int .i64 j), (5, .int .i64 k)], []⟩) c ⟨i, 1, c, rfl, h, rfl, ?_⟩ ?_
  · simp only [fgR, encV, tmR]; rfl
  rintro m S ⟨j, k, c', rfl, hs, hj, rfl⟩
  simp only [↓wpR, knR, ↓lrR, ↓exR, ↓guR, stR, ↓opsR, retR, outL, onePV, frR, Nat.reduceAdd, Nat.reduceSub, tmR, fgR, D_all, encV, encN, biR, biI, inRR, indexAddrR, loadR, fieldAddrR, fieldOf, ↓exmap, ↓exi, agR, subR, isR, alR, Bool.not_false, Bool.and_self, Nat.reduceLeDiff, forall_const, ne_eq, reduceCtorEq, not_false_eq_true, true_and, PV.bool.injEq, Int.toNat_natCast, Nat.zero_add, decide_eq_true_eq, List.length_cons, List.length_nil]
  refine ⟨fun hk => ?_, fun hk => ?_⟩
  · obtain ⟨k, rfl⟩ : ∃ k', k = k' + 1 := ⟨k - 1, by omega⟩
    have hjl : j < v.length := by
      rcases Nat.lt_or_ge j v.length with h' | h'
      · exact h'
      · rw [List.drop_eq_nil_of_le h'] at hs; simp [skip] at hs
    rw [List.drop_eq_getElem_cons hjl] at hs
    obtain ⟨hm, c'', rfl, hs'⟩ := skip_step hs
    have hle := skip_le _ _ _ hs'
    simp only [List.length_drop] at hle
    have hk2 : ((k + 1 : Nat) : Int) + (v[j].many - 1) = ((k + v[j].many.toNat : Nat) : Int) := by omega
    exact ⟨by omega, v[j], List.getElem?_eq_getElem hjl, by omega, by omega, by omega, c'', by omega, j + 1, k + v[j].many.toNat, c'', rfl, hs', by omega, by rw [hk2]; rfl⟩
  · rw [if_pos trivial]
    have hk0 : k = 0 := by have := of_decide_eq_false hk; omega
    subst hk0
    have : m = 0 := by cases hd : v.drop j <;> rw [hd] at hs <;> simp [skip] at hs <;> exact hs.symm
    subst this
    congr 1; omega

def objV (v : Vl) : Obj := ⟨t_api_Node, 6, v.map encN, true, 0⟩

theorem noRefs_objV (v : Vl) : NoRefs [objV v] := by
  intro o ho x hx p hp
  simp only [List.mem_singleton] at ho
  subst ho
  simp only [objV, List.mem_map] at hx
  obtain ⟨n, _, rfl⟩ := hx
  simp only [encN, PV.cells, List.mem_cons, List.not_mem_nil, or_false] at hp
  rcases hp with rfl | rfl | rfl | rfl | rfl | rfl <;> rfl

theorem encN_cells (n : Nd) : (encN n).cells.length = 6 ∧ (encN n).cells.all PV.storable = true := ⟨rfl, rfl⟩

theorem map_frzN (d n : Nat) (objs : List Obj) (v : Vl) : (v.map encN).map (PV.mapCells (frz d n objs)) = v.map encN := by
  rw [List.map_map]
  exact List.map_congr_left fun x _ => rfl

theorem clone_nil : FnSpec Try.prog f_slices_Clone_api_Val_api_Node_ [.sl 6 [] (some true)] [] (.osl 0 0) [objV []] := by
  refine k_slices_Clone_api_Val_api_Node_.made (T := tabL Try.prog []) 0 hD (kOk_tabL tabOk_nil) hmix ?_
  simp only [c_slices_Clone_api_Val_api_Node_, ↓wpR, knR, ↓lrR, ↓exR, ↓guR, stR, ↓opsR, retMR, frR, Nat.reduceAdd, Nat.reduceSub, tmR, fgR, D_all, biR, biI, inRR, builtinR', forall_const, reduceCtorEq, false_imp_iff, and_true, TK.slice.injEq, exists_eq', true_and]
  exact ⟨_, 0, 0, _, Weak.adopt 2 t_api_Node 6 rfl, rfl, rfl, rfl, rfl, rfl, noRefs_objV []⟩

theorem clone_some (v : Vl) (hv : v.length ≤ 1099511627776) : FnSpec Try.prog f_slices_Clone_api_Val_api_Node_ [.sl 6 (v.map encN) (some false)] [] (.osl 0 0) [objV v] := by
  refine k_slices_Clone_api_Val_api_Node_.made (T := tabL Try.prog []) 0 hD (kOk_tabL tabOk_nil) hmix ?_
  simp only [c_slices_Clone_api_Val_api_Node_, ↓wpR, knR, ↓lrR, ↓exR, ↓guR, stR, ↓opsR, retMR, frR, Nat.reduceAdd, Nat.reduceSub, tmR, fgR, D_all, biR, biI, inRR, builtinR', forall_const, reduceCtorEq, false_imp_iff, and_true, TK.slice.injEq, exists_eq', true_and]
  simp only [buildSliceR, appendR, srcR, newObj, setAll, D_all, ne_eq, reduceCtorEq, not_false_eq_true, true_and, if_true, List.all_nil, Nat.zero_mul, Nat.zero_le, List.nil_append, List.length_nil, List.getElem?_cons_zero, Option.some.injEq]
  refine ⟨rfl, rfl, rfl, rfl, ?_, _, rfl, rfl, rfl, rfl, rfl, ?_, ?_, fun _ _ h => h.elim, _, 0, 2, _, Weak.refl _ _, rfl, rfl, rfl, rfl, ?_, noRefs_objV v⟩
  · intro y hy
    obtain ⟨n, _, rfl⟩ := List.mem_map.1 hy
    exact encN_cells n
  · simp; omega
  · simp; omega
  · simp only [frzO, objV, List.replicate_zero, List.nil_append, map_frzN]

theorem clone_spec (v : Vl) (hv : v.length ≤ 1099511627776) : FnSpec Try.prog f_slices_Clone_api_Val_api_Node_ [encV v] [] (.osl 0 0) [objV v] :=
  FnSpec.split (pre := []) (post := []) (fun h => by
    have : v = [] := by simpa using h
    subst this
    exact clone_nil) (clone_some v hv)

end Lp

/-! LpW2 -/

namespace Lp
open Go Go.Proofs

set_option maxHeartbeats 2000000
set_option linter.unusedSimpArgs false

def rowOf (p : Vl) : List PV := [.str (nameOf p), encV (clr p)]

def ctrBehind : Ctr := fun args objs K => ∃ (v : Vl) (i c : Nat), args = [encV v, .int .i64 i] ∧ v.length ≤ 4611686018427387904 ∧ skip (v.drop i) 1 = some c ∧ K (.int .i64 (i + c : Nat)) objs 0
def ctrClone : Ctr := fun args objs K => ∃ v : Vl, args = [encV v] ∧ v.length ≤ 1099511627776 ∧ K (.osl objs.length 0) (objs ++ [objV v]) 2

theorem ctrBehind_ok : CtrOk Try.prog f_val_behind ctrBehind := by
  rintro args objs K ⟨v, i, c, rfl, hv, hs, hk⟩
  exact ⟨_, _, _, .pure _ rfl (behind_spec v i c hv hs), hk⟩

theorem ctrClone_ok : CtrOk Try.prog f_slices_Clone_api_Val_api_Node_ ctrClone := by
  rintro args objs K ⟨v, rfl, hv, hk⟩
  have h := CallR.made (objs := objs) _ _ rfl (noRefs_objV v) (clone_spec v hv)
  exact ⟨_, _, _, h, by simpa [PV.shift, PV.shiftS] using hk⟩

theorem each_spec (v : Vl) : FnSpec Try.prog f_val_each [encV v] [] (.fn f_val_each_1 [] [.addr (encV v)]) [] := by
  refine k_val_each.pure (T := tabL Try.prog []) 1 hD (kOk_tabL tabOk_nil) hmix (by decide) ?_
  simp only [c_val_each, ↓wpR, knR, ↓lrR, ↓exR, ↓guR, stR, ↓opsR, retR, outL, onePV, Nat.reduceAdd, Nat.reduceSub, tmR, D_all, boxR, makeFuncR, newObj, encV, isR, alR, ne_eq, reduceCtorEq, not_false_eq_true, true_and, List.length_cons, List.length_nil, List.nil_append]
  exact ⟨rfl, rfl, rfl⟩

theorem each1_gives (v : Vl) (n : Nd) (r : Vl) (ps : List Vl) (hv : v = n :: r) (hl : v.length ≤ 1099511627776) (hm : 0 ≤ n.many) (hp : parts n.many.toNat r = some ps) :
    Gives Try.prog f_val_each_1 [.addr (encV v)] (ps.map rowOf) := by
  refine k_val_each_1.gives (fnT := tabF [(f_val_behind, ctrBehind), (f_slices_Clone_api_Val_api_Node_, ctrClone)]) hD (tabOk_cons ctrBehind_ok (tabOk_cons ctrClone_ok tabOk_nil)) hmix ?_
  intro I objs y hI hIl
  subst hv
  simp only [c_val_each_1, ↓wpR, kiR, ↓lrR, ↓exR, ↓guR, stR, ↓opsR, Nat.reduceAdd, Nat.reduceSub, tmR, D_all, biR, biI, inRR, indexAddrR, loadR, fieldAddrR, fieldOf, ↓exmap, ↓exi, agR, subR, isR, alR, encV, encN, List.map_cons, Int.reduceToNat, Int.toNat_zero, Int.reduceLE, Bool.not_false, Bool.and_self, Nat.reduceLeDiff, forall_const, ne_eq, reduceCtorEq, not_false_eq_true, true_and, PV.bool.injEq, Int.toNat_natCast, Nat.zero_add, List.length_cons, List.length_nil]
  refine wpc_loop (fun m S => ∃ (k i : Nat) (O : List Obj) (rest : List Vl), k + rest.length = ps.length ∧ m = rest.length ∧ parts rest.length ((n :: r).drop i) = some rest ∧ ps.drop k = rest ∧ I k O ∧
    S = ⟨mkT 34 [(0, .yld y), (1, .addr (encV (n :: r))), (3, .int .i64 i), (9, .int .i64 n.many), (10, .int .i64 k)], O⟩) ps.length ?_ ?_
  · have hpl := parts_len _ _ _ hp
    refine ⟨0, 1, objs, ps, by omega, rfl, by rw [hpl]; simpa using hp, by simp, hI, ?_⟩
    simp only [fgR, encV, tmR]; rfl
  have hpl := parts_len _ _ _ hp
  have hple : n.many.toNat ≤ 1099511627776 := by have := parts_le _ _ _ hp; simp at hl; omega
  generalize hv : n :: r = v at *
  rintro m S ⟨k, i, O, rest, hk, rfl, hps, hd, hIk, rfl⟩
  simp only [↓wpR, kiR, ↓lrR, ↓exR, ↓guR, stR, ↓opsR, Nat.reduceAdd, Nat.reduceSub, tmR, D_all, F_all, biR, biI, inRR, caR, taR, ctrBehind, ctrClone, Nat.reduceBEq, BEq.rfl, cond_true, cond_false, sliceR, boundR, indexAddrR, loadR, fieldAddrR, fieldOf, ↓exmap, ↓exi, agR, subR, isR, alR, encV, List.map_cons, Int.reduceToNat, Int.toNat_zero, Int.reduceLE, Bool.not_false, Bool.and_self, Nat.reduceLeDiff, forall_const, ne_eq, reduceCtorEq, not_false_eq_true, true_and, PV.bool.injEq, Int.toNat_natCast, Nat.zero_add, List.length_cons, List.length_nil]
  refine ⟨fun hkm => ?_, fun hkm => ?_⟩
  · have hkm' : (k : Int) < n.many := of_decide_eq_true hkm
    obtain ⟨q, hq⟩ : ∃ q, rest.length = q + 1 := ⟨rest.length - 1, by omega⟩
    rw [hq] at hps
    obtain ⟨c, qs, hsk, hr', hqs⟩ := parts_step hps
    have hc := skip_le _ _ _ hsk
    simp only [List.length_drop] at hc
    have hlv : v.length ≤ 1099511627776 := hl
    refine ⟨v, i, c, rfl, by omega, hsk, .inr trivial, by omega, by omega, by simp; omega, (v.drop i).take c, ?_, by simp; omega, objV ((v.drop i).take c), by simp, rfl, rfl, by simp [objV]; omega, rfl, objV ((v.drop i).take c), by simp, rfl, rfl, ?_⟩
    · rw [← List.map_take, ← List.map_drop, ← List.take_drop]
    · obtain ⟨hdn, tl, hpe⟩ : ∃ a b, (v.drop i).take c = a :: b := by
        cases hx : (v.drop i).take c with
        | nil => have := congrArg List.length hx; simp at this; omega
        | cons a b => exact ⟨a, b, rfl⟩
      rw [hpe] at hr' ⊢
      refine ⟨objV (hdn :: tl), encN hdn, by simp, rfl, rfl, rfl, by simp, rfl, by simp [encN, PV.cells], (fun h => by cases h), rfl, ?_⟩
      have hset : (O ++ [objV (hdn :: tl)]).set O.length { objV (hdn :: tl) with xs := (objV (hdn :: tl)).xs.set 0 ((encN hdn).putCells 2 (PV.str []).cells) } = O ++ [objV (clr (hdn :: tl))] := by
        rw [List.set_append_right _ _ (Nat.le_refl _), Nat.sub_self]
        rfl
      rw [hset]
      refine wpc_weak _ (Weak.freeze 1 O.length (hIl k O hIk).1 _) ?_
      have hgo : (O ++ [objV (clr (hdn :: tl))])[O.length]? = some (objV (clr (hdn :: tl))) := by simp
      have hfr : frz 1 O.length (O ++ [objV (clr (hdn :: tl))]) (.osl O.length 0) = encV (clr (hdn :: tl)) := by
        simp only [frz, Nat.lt_irrefl, if_false, frzI, hgo]
        simp only [objV, Nat.le_refl, decide_true, Bool.and_self, BEq.rfl, if_true, encV, List.map_map]
        congr 1
      have hro : (O ++ [objV (clr (hdn :: tl))]).take O.length = O := by simp
      have hpost : ∃ w, w = clr (hdn :: tl) := ⟨_, rfl⟩
      obtain ⟨pc, hpc⟩ := hpost
      rw [← hpc] at hfr hro hgo ⊢
      have hq1 : (frz 1 O.length (O ++ [objV pc]) (.optr O.length 0 0 0)).pure = true := frz_optr_pure (Nat.le_refl _)
      have hq2 : (frz 1 O.length (O ++ [objV pc]) (.optr O.length 0 0 2)).pure = true := frz_optr_pure (Nat.le_refl _)
      have hq3 : (encV pc).pure = true := rfl
      simp only [St.freeze, tmR, fzR, frR, hfr, hro, hq1, hq2, hq3, puR, unR, Bool.not_true, encN, frzO_id (hIl k O hIk).2, ↓wpR, kiR, ↓lrR, ↓exR, ↓guR, stR, ↓opsR, Nat.reduceAdd, Nat.reduceSub, D_all, biR, biI, inRR, caR, Yof, indexAddrR, loadR, fieldAddrR, fieldOf, ↓exmap, ↓exi, agR, subR, isR, alR, Int.reduceToNat, Int.toNat_zero, Int.reduceLE, Bool.not_false, Bool.and_self, Nat.reduceLeDiff, forall_const, ne_eq, reduceCtorEq, not_false_eq_true, true_and, PV.bool.injEq, Int.toNat_natCast, Nat.zero_add, List.length_cons, List.length_nil]
      have hvi : v[i]? = some hdn := by
        have := congrArg (fun l => l[0]?) hpe
        simp only [List.getElem?_cons_zero, List.getElem?_take, List.getElem?_drop, Nat.add_zero] at this
        rw [if_pos (by omega)] at this
        exact this
      have hpk : ps[k]? = some (hdn :: tl) := by
        have := congrArg (fun l => l[0]?) (hd.trans hr')
        simpa using this
      have hdq : ps.drop (k + 1) = qs := by
        have := congrArg List.tail (hd.trans hr')
        simpa [List.tail_drop] using this
      have hlq : qs.length = q := by rw [hr'] at hq; simpa using hq
      refine ⟨by omega, hdn, hvi, k, hIk, ?_, fun objs' hI' => ⟨fun h => h.elim, ⟨by omega, by omega⟩, qs.length, by omega, k + 1, i + c, objs', qs, by omega, rfl, ?_, hdq, hI', ?_⟩⟩
      · rw [List.getElem?_map, hpk, hpc]; rfl
      · rw [hlq]; rw [List.drop_drop] at hqs; exact hqs
      · simp only [fgR, encV, tmR]; rfl
  · rw [if_pos trivial]
    have hge : ¬ (k : Int) < n.many := of_decide_eq_false hkm
    refine ⟨.inl rfl, ?_⟩
    have : k = ps.length := by omega
    rw [List.length_map, ← this]
    exact hIk
end Lp

/-! LpW3 -/

namespace Lp
open Go Go.Proofs

set_option maxHeartbeats 2000000
set_option linter.unusedSimpArgs false

def ctrEach : Ctr := fun args objs K => ∃ v : Vl, args = [encV v] ∧ K (.fn f_val_each_1 [] [.addr (encV v)]) objs 0

theorem ctrEach_ok : CtrOk Try.prog f_val_each ctrEach := by
  rintro args objs K ⟨v, rfl, hk⟩
  exact ⟨_, _, _, .pure _ rfl (each_spec v), hk⟩

/-- The boxed list of Parts, so many in it. -/
def partsObjs (done : List Vl) (O : List Obj) : Prop :=
  (done = [] ∧ O = [⟨t_L_api_Val, 1, [.sl 0 [] (some true)], true, 1⟩]) ∨
  (done ≠ [] ∧ ∃ ver, O = [⟨t_L_api_Val, 1, [.osl 1 ver], true, 1⟩, ⟨t_api_Val, 1, done.map fun p => encV (clr p), true, ver⟩])

theorem parts_spec0 (v : Vl) (n : Nd) (r : Vl) (ps : List Vl) (hv : v = n :: r) (hl : v.length ≤ 1099511627776) (hm : 0 ≤ n.many) (hp : parts n.many.toNat r = some ps) :
    FnSpec Try.prog f_val_Parts [encV v] [] (if ps = [] then .sl 0 [] (some true) else .sl 1 (ps.map fun p => encV (clr p)) none) [] := by
  refine k_val_Parts.pure (T := tabL Try.prog [(f_val_each, ctrEach)]) 2 hD (kOk_tabL (tabOk_cons ctrEach_ok tabOk_nil)) hmix (by decide) ?_
  simp only [c_val_Parts, ↓wpR, knR, ↓lrR, ↓exR, ↓guR, stR, ↓opsR, Nat.reduceAdd, Nat.reduceSub, tmR, D_all, F_all, caR, taR, ctrEach, Nat.reduceBEq, BEq.rfl, cond_true, cond_false, allocR, newObj, zeroElem, isR, alR, ne_eq, reduceCtorEq, not_false_eq_true, true_and, List.length_cons, List.length_nil, List.nil_append]
  refine ⟨rfl, v, rfl, ?_⟩
  refine wpc_rf f_val_each_1 [.addr (encV v)] (ps.map rowOf) (fun i O => partsObjs (ps.take i) O ∧ i ≤ ps.length) rfl rfl rfl trivial (each1_gives v n r ps hv hl hm hp) ?_ ⟨.inl ⟨by simp, rfl⟩, Nat.zero_le _⟩ ?_ ?_ ?_
  · intro y hy
    obtain ⟨p, _, rfl⟩ := List.mem_map.1 hy
    rfl
  · rintro i O ⟨h | ⟨_, ver, rfl⟩, _⟩
    · rw [h.2]
      refine ⟨by simp, ?_⟩
      intro o ho x hx c hc
      simp only [List.mem_singleton] at ho
      subst ho
      simp only [List.mem_singleton] at hx
      subst hx
      simp only [PV.cells, List.mem_singleton] at hc
      subst hc
      rfl
    · refine ⟨by simp, ?_⟩
      intro o ho x hx c hc
      simp only [List.mem_cons, List.not_mem_nil, or_false] at ho
      rcases ho with rfl | rfl
      · simp only [List.mem_singleton] at hx
        subst hx
        simp only [PV.cells, List.mem_singleton] at hc
        subst hc
        rfl
      · simp only [List.mem_map] at hx
        obtain ⟨p, _, rfl⟩ := hx
        simp only [encV, PV.cells, List.mem_singleton] at hc
        subst hc
        rfl
  · rintro i args O ⟨hO, hi⟩ ha
    rw [List.getElem?_map] at ha
    obtain ⟨p, hpi, rfl⟩ : ∃ p, ps[i]? = some p ∧ rowOf p = args := by
      cases hx : ps[i]? with
      | none => rw [hx] at ha; simp at ha
      | some p => rw [hx] at ha; exact ⟨p, rfl, by simpa using ha⟩
    have hil : i < ps.length := (List.getElem?_eq_some_iff.1 hpi).1
    have htk : ps.take (i + 1) = ps.take i ++ [p] := by rw [List.take_add_one, hpi]; rfl
    rcases hO with ⟨h0, rfl⟩ | ⟨h0, ver, rfl⟩
    · simp only [rowOf, setL, obR, ↓exi, ↓exi2, reduceIte, Bool.false_eq_true, if_false, ↓wpR, ↓lrR, ↓exR, ↓guR, stR, ↓opsR, Nat.reduceAdd, Nat.reduceSub, tmR, D_all, builtinR', loadR, buildSliceR, appendR, srcR, newObj, setAll, storeR, zeroElem, agR, subR, isR, alR, ne_eq, reduceCtorEq, not_false_eq_true, true_and, List.length_cons, List.length_nil, List.nil_append]
      refine ⟨by decide, fun _ => trivial, rfl, by decide, rfl, rfl, rfl, ?_, by decide, by decide, by decide, fun _ => trivial, rfl, .inr ⟨by rw [htk]; simp, 1, ?_⟩, by omega⟩
      · intro y hy
        simp only [List.mem_singleton] at hy
        subst hy
        exact ⟨rfl, rfl⟩
      · rw [htk, h0]; rfl
    · have hlen : ps.length ≤ 1099511627776 := by
        have h1 := parts_len _ _ _ hp
        have h2 := parts_le _ _ _ hp
        rw [hv] at hl
        simp at hl
        omega
      simp only [rowOf, setL, obR, ↓exi, ↓exi2, reduceIte, Bool.false_eq_true, if_false, ↓wpR, ↓lrR, ↓exR, ↓guR, stR, ↓opsR, Nat.reduceAdd, Nat.reduceSub, tmR, D_all, builtinR', loadR, buildSliceR, appendR, srcR, newObj, setAll, storeR, zeroElem, agR, subR, isR, alR, ne_eq, reduceCtorEq, not_false_eq_true, true_and, List.length_cons, List.length_nil, List.nil_append]
      refine ⟨by decide, fun _ => trivial, rfl, by decide, rfl, rfl, rfl, ?_, by simp; omega, by simp; omega, fun _ _ h => h.elim, by decide, fun _ => trivial, rfl, .inr ⟨by rw [htk]; simp, ver + 1, ?_⟩, by omega⟩
      · intro y hy
        simp only [List.mem_singleton] at hy
        subst hy
        exact ⟨rfl, rfl⟩
      · rw [htk, List.map_append]; rfl
  · rintro O ⟨hO, _⟩
    rw [List.length_map, List.take_length] at hO
    rcases hO with ⟨h0, rfl⟩ | ⟨h0, ver, rfl⟩
    · rw [if_pos h0]
      simp only [obR, ↓exi, ↓exi2, reduceIte, ↓exR, stR, tmR, loadR, agR, subR, isR, alR, retR, outL, onePV, frR, fzR, ne_eq, reduceCtorEq, not_false_eq_true, true_and, List.length_cons, List.length_nil, List.nil_append]
      exact ⟨by decide, fun _ => trivial, rfl, trivial⟩
    · rw [if_neg h0]
      simp only [obR, ↓exi, ↓exi2, reduceIte, ↓exR, stR, tmR, loadR, agR, subR, isR, alR, retR, outL, onePV, frR, fzR, ne_eq, reduceCtorEq, not_false_eq_true, true_and, List.length_cons, List.length_nil, List.nil_append]
      refine ⟨by decide, fun _ => trivial, rfl, ?_⟩
      simp only [frz, Nat.not_lt_zero, if_false, frzI, List.getElem?_cons_succ, List.getElem?_cons_zero, Nat.le_refl, Nat.zero_le, decide_true, Bool.and_self, BEq.rfl, if_true, List.map_map]
      congr 1

theorem parts_spec (v : Vl) (n : Nd) (r : Vl) (ps : List Vl) (hv : v = n :: r) (hl : v.length ≤ 1099511627776) (hm : 0 ≤ n.many) (hp : parts n.many.toNat r = some ps) :
    FnSpec Try.prog f_val_Parts [encV v] [] (.sl 1 (ps.map fun p => encV (clr p)) none) [] := by
  refine (parts_spec0 v n r ps hv hl hm hp).le_res fun w ok u h => ?_
  split at h
  · rename_i h0
    subst h0
    exact rep_nil h (by simp)
  · exact h
end Lp

/-! LpW4 -/

namespace Lp
open Go Go.Proofs

set_option maxHeartbeats 2000000
set_option linter.unusedSimpArgs false

/-- The boxed list of Names, so many in it. -/
def namesObjs (done : List Vl) (O : List Obj) : Prop :=
  (done = [] ∧ O = [⟨t_L_string, 1, [.sl 0 [] (some true)], true, 1⟩]) ∨
  (done ≠ [] ∧ ∃ ver, O = [⟨t_L_string, 1, [.osl 1 ver], true, 1⟩, ⟨t_string, 1, done.map fun p => .str (nameOf p), true, ver⟩])

theorem names_spec0 (v : Vl) (n : Nd) (r : Vl) (ps : List Vl) (hv : v = n :: r) (hl : v.length ≤ 1099511627776) (hm : 0 ≤ n.many) (hp : parts n.many.toNat r = some ps) :
    FnSpec Try.prog f_val_Names [encV v] [] (if n.kind = 6 ∧ ps ≠ [] then .sl 1 (ps.map fun p => .str (nameOf p)) none else .sl 0 [] (some true)) [] := by
  subst hv
  refine k_val_Names.pure (T := tabL Try.prog [(f_val_each, ctrEach)]) 2 hD (kOk_tabL (tabOk_cons ctrEach_ok tabOk_nil)) hmix (by decide) ?_
  simp only [c_val_Names, ↓wpR, knR, ↓lrR, ↓exR, ↓guR, stR, ↓opsR, Nat.reduceAdd, Nat.reduceSub, tmR, D_all, F_all, caR, taR, ctrEach, Nat.reduceBEq, BEq.rfl, cond_true, cond_false, allocR, newObj, zeroElem, ↓exmap, ↓exi, indexAddrR, loadR, fieldAddrR, fieldOf, encV, encN, biR, biI, agR, subR, List.map_cons, Int.reduceToNat, Int.toNat_zero, Int.reduceLE, Nat.reduceLeDiff, forall_const, Bool.not_false, Bool.and_self, ↓exi2, obR, retR, outL, onePV, frR, isR, alR, ne_eq, reduceCtorEq, not_false_eq_true, true_and, List.length_cons, List.length_nil, List.nil_append]
  refine ⟨rfl, fun hk => ⟨n :: r, rfl, ?_⟩, fun hk => ?_⟩
  · have hk6 : n.kind = 6 := of_decide_eq_true hk
    refine wpc_rf f_val_each_1 [.addr (encV (n :: r))] (ps.map rowOf) (fun i O => namesObjs (ps.take i) O ∧ i ≤ ps.length) rfl rfl rfl trivial (each1_gives (n :: r) n r ps rfl hl hm hp) ?_ ⟨.inl ⟨by simp, rfl⟩, Nat.zero_le _⟩ ?_ ?_ ?_
    · intro y hy
      obtain ⟨p, _, rfl⟩ := List.mem_map.1 hy
      rfl
    · rintro i O ⟨h | ⟨_, ver, rfl⟩, _⟩
      · rw [h.2]
        refine ⟨by simp, ?_⟩
        intro o ho x hx c hc
        simp only [List.mem_singleton] at ho
        subst ho
        simp only [List.mem_singleton] at hx
        subst hx
        simp only [PV.cells, List.mem_singleton] at hc
        subst hc
        rfl
      · refine ⟨by simp, ?_⟩
        intro o ho x hx c hc
        simp only [List.mem_cons, List.not_mem_nil, or_false] at ho
        rcases ho with rfl | rfl
        · simp only [List.mem_singleton] at hx
          subst hx
          simp only [PV.cells, List.mem_singleton] at hc
          subst hc
          rfl
        · simp only [List.mem_map] at hx
          obtain ⟨p, _, rfl⟩ := hx
          simp only [PV.cells, List.mem_singleton] at hc
          subst hc
          rfl
    · rintro i args O ⟨hO, hi⟩ ha
      rw [List.getElem?_map] at ha
      obtain ⟨p, hpi, rfl⟩ : ∃ p, ps[i]? = some p ∧ rowOf p = args := by
        cases hx : ps[i]? with
        | none => rw [hx] at ha; simp at ha
        | some p => rw [hx] at ha; exact ⟨p, rfl, by simpa using ha⟩
      have hil : i < ps.length := (List.getElem?_eq_some_iff.1 hpi).1
      have htk : ps.take (i + 1) = ps.take i ++ [p] := by rw [List.take_add_one, hpi]; rfl
      rcases hO with ⟨h0, rfl⟩ | ⟨h0, ver, rfl⟩
      · simp only [rowOf, setL, obR, ↓exi, ↓exi2, reduceIte, Bool.false_eq_true, if_false, ↓wpR, ↓lrR, ↓exR, ↓guR, stR, ↓opsR, Nat.reduceAdd, Nat.reduceSub, tmR, D_all, builtinR', loadR, buildSliceR, appendR, srcR, newObj, setAll, storeR, zeroElem, agR, subR, isR, alR, ne_eq, reduceCtorEq, not_false_eq_true, true_and, List.length_cons, List.length_nil, List.nil_append]
        refine ⟨by decide, fun _ => trivial, rfl, by decide, rfl, rfl, rfl, ?_, by decide, by decide, by decide, fun _ => trivial, rfl, .inr ⟨by rw [htk]; simp, 1, ?_⟩, by omega⟩
        · intro y hy
          simp only [List.mem_singleton] at hy
          subst hy
          exact ⟨rfl, rfl⟩
        · rw [htk, h0]; rfl
      · have hlen : ps.length ≤ 1099511627776 := by
          have h1 := parts_len _ _ _ hp
          have h2 := parts_le _ _ _ hp
          simp at hl
          omega
        simp only [rowOf, setL, obR, ↓exi, ↓exi2, reduceIte, Bool.false_eq_true, if_false, ↓wpR, ↓lrR, ↓exR, ↓guR, stR, ↓opsR, Nat.reduceAdd, Nat.reduceSub, tmR, D_all, builtinR', loadR, buildSliceR, appendR, srcR, newObj, setAll, storeR, zeroElem, agR, subR, isR, alR, ne_eq, reduceCtorEq, not_false_eq_true, true_and, List.length_cons, List.length_nil, List.nil_append]
        refine ⟨by decide, fun _ => trivial, rfl, by decide, rfl, rfl, rfl, ?_, by simp; omega, by simp; omega, fun _ _ h => h.elim, by decide, fun _ => trivial, rfl, .inr ⟨by rw [htk]; simp, ver + 1, ?_⟩, by omega⟩
        · intro y hy
          simp only [List.mem_singleton] at hy
          subst hy
          exact ⟨rfl, rfl⟩
        · rw [htk, List.map_append]; rfl
    · rintro O ⟨hO, _⟩
      rw [List.length_map, List.take_length] at hO
      rcases hO with ⟨h0, rfl⟩ | ⟨h0, ver, rfl⟩
      · rw [if_neg (fun h => h.2 h0)]
        simp only [obR, ↓exi, ↓exi2, reduceIte, ↓exR, stR, tmR, loadR, agR, subR, isR, alR, retR, outL, onePV, frR, fzR, ne_eq, reduceCtorEq, not_false_eq_true, true_and, List.length_cons, List.length_nil, List.nil_append]
        simp
      · rw [if_pos ⟨hk6, h0⟩]
        simp only [obR, ↓exi, ↓exi2, reduceIte, ↓exR, stR, tmR, loadR, agR, subR, isR, alR, retR, outL, onePV, frR, fzR, ne_eq, reduceCtorEq, not_false_eq_true, true_and, List.length_cons, List.length_nil, List.nil_append]
        refine ⟨by decide, rfl, ?_⟩
        simp only [frz, Nat.not_lt_zero, if_false, frzI, List.getElem?_cons_succ, List.getElem?_cons_zero, Nat.le_refl, Nat.zero_le, decide_true, Bool.and_self, BEq.rfl, if_true, List.map_map]
        congr 1
  · have hk6 : n.kind ≠ 6 := of_decide_eq_false hk
    rw [if_neg (fun h => hk6 h.1)]

theorem names_spec (v : Vl) (n : Nd) (r : Vl) (ps : List Vl) (hv : v = n :: r) (hl : v.length ≤ 1099511627776) (hm : 0 ≤ n.many) (hp : parts n.many.toNat r = some ps) :
    FnSpec Try.prog f_val_Names [encV v] [] (.sl 1 ((namesOf n ps).map .str) none) [] := by
  refine (names_spec0 v n r ps hv hl hm hp).le_res fun w ok u h => ?_
  unfold namesOf
  by_cases hk : n.kind = 6
  · rw [if_pos hk]
    by_cases h0 : ps = []
    · subst h0
      rw [if_neg (fun h => h.2 rfl)] at h
      exact rep_nil h (by simp)
    · rw [if_pos ⟨hk, h0⟩] at h
      rw [List.map_map]
      exact h
  · rw [if_neg hk]
    rw [if_neg (fun h => hk h.1)] at h
    exact rep_nil h (by simp)

end Lp

/-! LpW5 -/

namespace Lp
open Go Go.Proofs

set_option maxHeartbeats 2000000
set_option linter.unusedSimpArgs false


theorem isNaN_int_spec (x : Int) : FnSpec Try.prog f_cmp_isNaN_int_ [.int .i64 x] [] (.bool false) [] := by
  refine k_cmp_isNaN_int_.pure (T := tabL Try.prog []) 0 hD (kOk_tabL tabOk_nil) hmix (by decide) ?_
  simp only [c_cmp_isNaN_int_, ↓wpR, knR, ↓lrR, ↓exR, ↓guR, stR, ↓opsR, retR, outL, onePV, frR, Nat.reduceAdd, Nat.reduceSub, tmR, D_all, biR, biI]
  simp

def ctrNaNi : Ctr := fun args objs K => ∃ x : Int, args = [.int .i64 x] ∧ K (.bool false) objs 0
theorem ctrNaNi_ok : CtrOk Try.prog f_cmp_isNaN_int_ ctrNaNi := by
  rintro args objs K ⟨x, rfl, hk⟩
  exact ⟨_, _, _, .pure _ rfl (isNaN_int_spec x), hk⟩

theorem compare_int_spec (x y : Int) : FnSpec Try.prog f_cmp_Compare_int_ [.int .i64 x, .int .i64 y] [] (.int .i64 (cmpI x y)) [] := by
  refine k_cmp_Compare_int_.pure (T := tabL Try.prog [(f_cmp_isNaN_int_, ctrNaNi)]) 0 hD (kOk_tabL (tabOk_cons ctrNaNi_ok tabOk_nil)) hmix (by decide) ?_
  simp only [c_cmp_Compare_int_, ↓wpR, knR, ↓lrR, ↓exR, ↓guR, stR, ↓opsR, retR, outL, onePV, frR, Nat.reduceAdd, Nat.reduceSub, tmR, D_all, F_all, caR, taR, ctrNaNi, Nat.reduceBEq, BEq.rfl, cond_true, cond_false, pickR, biR, biI]
  refine ⟨x, rfl, y, rfl, (fun h => by cases h), fun _ => ⟨(fun h => by cases h), fun _ => ⟨fun h => ?_, fun h => ⟨fun h' => ?_, fun h' => ?_⟩⟩⟩⟩
  · rw [cmpI, if_pos (of_decide_eq_true h)]
  · rw [cmpI, if_neg (of_decide_eq_false h), if_pos (of_decide_eq_true h')]
  · rw [cmpI, if_neg (of_decide_eq_false h), if_neg (of_decide_eq_false h')]


theorem isNaN_str_spec (x : List UInt8) : FnSpec Try.prog f_cmp_isNaN_string_ [.str x] [] (.bool false) [] := by
  refine k_cmp_isNaN_string_.pure (T := tabL Try.prog []) 0 hD (kOk_tabL tabOk_nil) hmix (by decide) ?_
  simp only [c_cmp_isNaN_string_, ↓wpR, knR, ↓lrR, ↓exR, ↓guR, stR, ↓opsR, retR, outL, onePV, frR, Nat.reduceAdd, Nat.reduceSub, tmR, D_all, biR, binS]
  simp

def ctrNaNs : Ctr := fun args objs K => ∃ x : List UInt8, args = [.str x] ∧ K (.bool false) objs 0
theorem ctrNaNs_ok : CtrOk Try.prog f_cmp_isNaN_string_ ctrNaNs := by
  rintro args objs K ⟨x, rfl, hk⟩
  exact ⟨_, _, _, .pure _ rfl (isNaN_str_spec x), hk⟩

theorem compare_str_spec (x y : List UInt8) : FnSpec Try.prog f_cmp_Compare_string_ [.str x, .str y] [] (.int .i64 (cmpS x y)) [] := by
  refine k_cmp_Compare_string_.pure (T := tabL Try.prog [(f_cmp_isNaN_string_, ctrNaNs)]) 0 hD (kOk_tabL (tabOk_cons ctrNaNs_ok tabOk_nil)) hmix (by decide) ?_
  simp only [c_cmp_Compare_string_, ↓wpR, knR, ↓lrR, ↓exR, ↓guR, stR, ↓opsR, retR, outL, onePV, frR, Nat.reduceAdd, Nat.reduceSub, tmR, D_all, F_all, caR, taR, ctrNaNs, Nat.reduceBEq, BEq.rfl, cond_true, cond_false, pickR, biR, binS]
  refine ⟨x, rfl, y, rfl, (fun h => by cases h), fun _ => ⟨(fun h => by cases h), fun _ => ⟨fun h => ?_, fun h => ⟨fun h' => ?_, fun h' => ?_⟩⟩⟩⟩
  · rw [cmpS, if_pos h]
  · rw [h, Bool.false_or] at h'
    have hne : x ≠ y := by simpa using h'
    rw [cmpS, if_neg (by rw [h]; simp), if_neg hne]
  · rw [h, Bool.false_or] at h'
    have he : x = y := by simpa using h'
    rw [cmpS, if_neg (by rw [h]; simp), if_pos he]

end Lp

/-! LpW6 -/

namespace Lp
open Go Go.Proofs

set_option maxHeartbeats 2000000
set_option linter.unusedSimpArgs false

def ctrCmpS : Ctr := fun args objs K => ∃ x y : List UInt8, args = [.str x, .str y] ∧ K (.int .i64 (cmpS x y)) objs 0
theorem ctrCmpS_ok : CtrOk Try.prog f_cmp_Compare_string_ ctrCmpS := by
  rintro args objs K ⟨x, y, rfl, hk⟩
  exact ⟨_, _, _, .pure _ rfl (compare_str_spec x y), hk⟩



theorem slicesCompare_spec (a b : List (List UInt8)) (ha : a.length ≤ 9223372036854775807) (_hb : b.length ≤ 9223372036854775807) :
    FnSpec Try.prog f_slices_Compare_L_string_string_ [encT a, encT b] [] (.int .i64 (lexBy cmpS a b)) [] := by
  refine k_slices_Compare_L_string_string_.pure (T := tabL Try.prog [(f_cmp_Compare_string_, ctrCmpS)]) 0 hD (kOk_tabL (tabOk_cons ctrCmpS_ok tabOk_nil)) hmix (by decide) ?_
  simp only [c_slices_Compare_L_string_string_, ↓wpR, knR, ↓lrR, ↓exR, ↓guR, stR, ↓opsR, retR, outL, onePV, frR, Nat.reduceAdd, Nat.reduceSub, tmR, D_all, builtinR', lenR, encT, List.length_map, biR, biI]
  refine wpc_loop (fun m S => ∃ i : Nat, m = a.length - i ∧ i ≤ a.length ∧ i ≤ b.length ∧ lexBy cmpS (a.drop i) (b.drop i) = lexBy cmpS a b ∧
    S = ⟨mkT 36 [(0, encT a), (1, encT b), (9, encT a), (10, .int .i64 a.length), (11, .int .i64 i)], []⟩) a.length ⟨0, rfl, Nat.zero_le _, Nat.zero_le _, rfl, ?_⟩ ?_
  · simp only [fgR, encT, tmR]; rfl
  rintro m S ⟨i, rfl, hi, hib, hlex, rfl⟩
  simp only [↓wpR, knR, ↓lrR, ↓exR, ↓guR, stR, ↓opsR, retR, outL, onePV, frR, Nat.reduceAdd, Nat.reduceSub, tmR, fgR, D_all, F_all, caR, taR, ctrCmpS, Nat.reduceBEq, BEq.rfl, cond_true, cond_false, builtinR', lenR, encT, biR, biI, inRR, List.length_map, indexAddrR, loadR, ↓exmap, agR, isR, ne_eq, reduceCtorEq, not_false_eq_true, true_and, PV.bool.injEq, Int.toNat_natCast, List.length_cons, List.length_nil]
  refine ⟨fun h => ?_, fun h => ?_⟩
  · have hlt : i < a.length := by have := of_decide_eq_true h; omega
    rw [List.drop_eq_getElem_cons hlt] at hlex
    refine ⟨by omega, a[i], List.getElem?_eq_getElem hlt, fun hge => ?_, fun hgl => ?_⟩
    · have hbe : b.length ≤ i := by have := of_decide_eq_true hge; omega
      rw [List.drop_eq_nil_of_le hbe] at hlex
      rw [← hlex]; rfl
    · have hbl : i < b.length := by have := of_decide_eq_false hgl; omega
      rw [List.drop_eq_getElem_cons hbl] at hlex
      refine ⟨by omega, b[i], List.getElem?_eq_getElem hbl, a[i], b[i], rfl, fun hne => ?_, fun heq => ⟨by omega, a.length - (i + 1), by omega, i + 1, rfl, by omega, by omega, ?_, rfl⟩⟩
      · have hne' : cmpS a[i] b[i] ≠ 0 := by simpa using hne
        rw [← hlex, lexBy, if_neg hne']
      · have heq' : cmpS a[i] b[i] = 0 := by simpa using heq
        rw [← hlex, lexBy, if_pos heq']
  · rw [if_pos trivial]
    have hge : a.length ≤ i := by have := of_decide_eq_false h; omega
    rw [List.drop_eq_nil_of_le hge] at hlex
    refine ⟨fun hl => ?_, fun hl => ?_⟩
    · have hl' : i < b.length := by have := of_decide_eq_true hl; omega
      rw [List.drop_eq_getElem_cons hl'] at hlex
      rw [← hlex]; rfl
    · have hl' : b.length ≤ i := by have := of_decide_eq_false hl; omega
      rw [List.drop_eq_nil_of_le hl'] at hlex
      rw [← hlex]; rfl
end Lp

/-! LpW7 -/

namespace Lp
open Go Go.Proofs

set_option maxHeartbeats 2000000
set_option linter.unusedSimpArgs false



def ctrG (a b : List Vl) (f : Vl → Vl → Int) : Ctr := fun args objs K => ∃ x y : Vl, (x ∈ a ∧ y ∈ b) ∧ args = [encV x, encV y] ∧ K (.int .i64 (f x y)) objs 0
theorem ctrG_ok (a b : List Vl) (g : FuncId) (f : Vl → Vl → Int) (hg : ∀ x ∈ a, ∀ y ∈ b, FnSpec Try.prog g [encV x, encV y] [] (.int .i64 (f x y)) []) : CtrOk Try.prog g (ctrG a b f) := by
  rintro args objs K ⟨x, y, ⟨hx, hy⟩, rfl, hk⟩
  exact ⟨_, _, _, .pure _ rfl (hg x hx y hy), hk⟩

theorem slicesCompareFunc_spec (a b : List Vl) (g : FuncId) (f : Vl → Vl → Int) (ha : a.length ≤ 9223372036854775807) (hg : ∀ x ∈ a, ∀ y ∈ b, FnSpec Try.prog g [encV x, encV y] [] (.int .i64 (f x y)) []) :
    FnSpec Try.prog f_slices_CompareFunc_L_api_Val_L_api_Val_api_Val_api_Val_ [encL a, encL b, .fn g [] []] [] (.int .i64 (lexBy f a b)) [] := by
  refine k_slices_CompareFunc_L_api_Val_L_api_Val_api_Val_api_Val_.pure (T := tabL Try.prog [(g, ctrG a b f)]) 0 hD (kOk_tabL (tabOk_cons (ctrG_ok a b g f hg) tabOk_nil)) hmix (by decide) ?_
  simp only [c_slices_CompareFunc_L_api_Val_L_api_Val_api_Val_api_Val_, ↓wpR, knR, ↓lrR, ↓exR, ↓guR, stR, ↓opsR, retR, outL, onePV, frR, Nat.reduceAdd, Nat.reduceSub, tmR, D_all, builtinR', lenR, encL, List.length_map, biR, biI]
  refine wpc_loop (fun m S => ∃ i : Nat, m = a.length - i ∧ i ≤ a.length ∧ i ≤ b.length ∧ lexBy f (a.drop i) (b.drop i) = lexBy f a b ∧
    S = ⟨mkT 39 [(0, encL a), (1, encL b), (2, .fn g [] []), (11, encL a), (12, .int .i64 a.length), (13, .int .i64 i)], []⟩) a.length ⟨0, rfl, Nat.zero_le _, Nat.zero_le _, rfl, ?_⟩ ?_
  · simp only [fgR, encL, tmR]; rfl
  rintro m S ⟨i, rfl, hi, hib, hlex, rfl⟩
  simp only [↓wpR, knR, ↓lrR, ↓exR, ↓guR, stR, ↓opsR, retR, outL, onePV, frR, Nat.reduceAdd, Nat.reduceSub, tmR, fgR, D_all, F_all, caR, taR, ctrG, Nat.reduceBEq, BEq.rfl, cond_true, cond_false, builtinR', lenR, encL, biR, biI, inRR, List.length_map, indexAddrR, loadR, ↓exmap, agR, isR, ne_eq, reduceCtorEq, not_false_eq_true, true_and, PV.bool.injEq, Int.toNat_natCast, List.length_cons, List.length_nil]
  refine ⟨fun h => ?_, fun h => ?_⟩
  · have hlt : i < a.length := by have := of_decide_eq_true h; omega
    rw [List.drop_eq_getElem_cons hlt] at hlex
    refine ⟨by omega, a[i], List.getElem?_eq_getElem hlt, rfl, rfl, fun hge => ?_, fun hgl => ?_⟩
    · have hbe : b.length ≤ i := by have := of_decide_eq_true hge; omega
      rw [List.drop_eq_nil_of_le hbe] at hlex
      rw [← hlex]; rfl
    · have hbl : i < b.length := by have := of_decide_eq_false hgl; omega
      rw [List.drop_eq_getElem_cons hbl] at hlex
      refine ⟨by omega, b[i], List.getElem?_eq_getElem hbl, rfl, rfl, a[i], b[i], ⟨List.getElem_mem _, List.getElem_mem _⟩, rfl, fun hne => ?_, fun heq => ⟨by omega, a.length - (i + 1), by omega, i + 1, rfl, by omega, by omega, ?_, rfl⟩⟩
      · have hne' : f a[i] b[i] ≠ 0 := by simpa using hne
        rw [← hlex, lexBy, if_neg hne']
      · have heq' : f a[i] b[i] = 0 := by simpa using heq
        rw [← hlex, lexBy, if_pos heq']
  · rw [if_pos trivial]
    have hge : a.length ≤ i := by have := of_decide_eq_false h; omega
    rw [List.drop_eq_nil_of_le hge] at hlex
    refine ⟨fun hl => ?_, fun hl => ?_⟩
    · have hl' : i < b.length := by have := of_decide_eq_true hl; omega
      rw [List.drop_eq_getElem_cons hl'] at hlex
      rw [← hlex]; rfl
    · have hl' : b.length ≤ i := by have := of_decide_eq_false hl; omega
      rw [List.drop_eq_nil_of_le hl'] at hlex
      rw [← hlex]; rfl
end Lp

/-! LpW8 -/

namespace Lp
open Go Go.Proofs

set_option maxHeartbeats 4000000
set_option maxRecDepth 20000
set_option linter.unusedSimpArgs false

def ctrCmpI : Ctr := fun args objs K => match args with
  | [.int .i64 x, .int .i64 y] => K (.int .i64 (cmpI x y)) objs 0
  | _ => False
theorem ctrCmpI_ok : CtrOk Try.prog f_cmp_Compare_int_ (ctrCmpI) := by
  intro args objs K h
  unfold ctrCmpI at h
  split at h
  · rename_i x y
    have hk := h
    exact ⟨_, _, _, .pure _ rfl (compare_int_spec x y), hk⟩
  · exact h.elim
def ctrCmpT : Ctr := fun args objs K => match args with
  | [.str x, .str y] => K (.int .i64 (cmpS x y)) objs 0
  | _ => False
theorem ctrCmpT_ok : CtrOk Try.prog f_cmp_Compare_string_ (ctrCmpT) := by
  intro args objs K h
  unfold ctrCmpT at h
  split at h
  · rename_i x y
    have hk := h
    exact ⟨_, _, _, .pure _ rfl (compare_str_spec x y), hk⟩
  · exact h.elim

/-- Two boxed nodes, frozen. -/
theorem frzB0 (x y : Nd) : frz 1 0 [⟨t_api_Node, 6, [encN x], true, 1⟩, ⟨t_api_Node, 6, [encN y], true, 1⟩] (.optr 0 1 0 0) = .addr (encN x) := rfl
theorem frzB1 (x y : Nd) : frz 1 0 [⟨t_api_Node, 6, [encN x], true, 1⟩, ⟨t_api_Node, 6, [encN y], true, 1⟩] (.optr 1 1 0 0) = .addr (encN y) := rfl
/-- One. -/
theorem frzC0 (x : Nd) : frz 1 0 [⟨t_api_Node, 6, [encN x], true, 1⟩] (.optr 0 1 0 0) = .addr (encN x) := rfl

theorem size_spec (a b : Nd) (ha : a.s.length ≤ 200) (hb : b.s.length ≤ 200) (hae : -1000 ≤ a.e ∧ a.e ≤ 1000) (hbe : -1000 ≤ b.e ∧ b.e ≤ 1000) : FnSpec Try.prog f_num_size [encN a, encN b] [] (.int .i64 (sizeN a b)) [] := by
  refine k_num_size.pure (T := tabL Try.prog [(f_cmp_Compare_int_, ctrCmpI), (f_cmp_Compare_string_, ctrCmpT)]) 0 hD (kOk_tabL (tabOk_cons ctrCmpI_ok (tabOk_cons ctrCmpT_ok tabOk_nil))) hmix (by decide) ?_
  try simp only [F_all]
  simp (maxSteps := 400000) only [↓preZ, postZ, coreZ, ↓preU, postU, D_all, F_all, unR, outL, onePV, binS, ↓binS, boundR, ↓boundR, fieldOf, ↓fieldOf, boxR, allocR, newObj, zeroElem, buildSliceR, appendR, setAll, storeR, St.freeze, makeSliceR, minmaxR, makeFuncR, BEq.rfl, reduceIte, reduceCtorEq, Nat.reduceLT, Nat.reduceAdd, Nat.reduceSub, Nat.reduceMul, Nat.reduceBEq, Nat.reduceLeDiff, Int.reduceToNat, Int.reduceLE, c_num_size]
  refine wpc_weak _ (Weak.freeze 1 0 (Nat.le_refl _) _) ?_
  simp (maxSteps := 400000) only [↓preZ, postZ, coreZ, ↓preU, postU, D_all, F_all, unR, outL, onePV, binS, ↓binS, boundR, ↓boundR, fieldOf, ↓fieldOf, boxR, allocR, newObj, zeroElem, buildSliceR, appendR, setAll, storeR, St.freeze, makeSliceR, minmaxR, makeFuncR, BEq.rfl, reduceIte, reduceCtorEq, Nat.reduceLT, Nat.reduceAdd, Nat.reduceSub, Nat.reduceMul, Nat.reduceBEq, Nat.reduceLeDiff, Int.reduceToNat, Int.reduceLE, frzB0, frzB1, ↓ctrCmpI, ↓ctrCmpT]
  refine ⟨fun h => ?_, fun h => ⟨fun h' => ?_, fun h' => ⟨⟨by omega, by omega⟩, ⟨by omega, by omega⟩, fun h0 => ?_, fun h0 => ?_⟩⟩⟩
  · rw [sizeN, if_pos (.inl h)]
  · rw [sizeN, if_pos (.inr h')]
  · rw [sizeN, if_neg (by simp [h, h']), if_pos h0]
  · rw [sizeN, if_neg (by simp [h, h']), if_neg h0]

def okN (n : Nd) : Prop := n.s.length ≤ 200 ∧ -1000 ≤ n.e ∧ n.e ≤ 1000

def ctrSize : Ctr := fun args objs K => match args with
  | [a0, a1] => ofE encN a0 (HK.mk : HK fun a => ofE encN a1 (HK.mk : HK fun b => (okN a) ∧ (okN b) ∧ K (.int .i64 (sizeN a b)) objs 0))
  | _ => False
theorem ctrSize_ok : CtrOk Try.prog f_num_size (ctrSize) := by
  intro args objs K h
  unfold ctrSize at h
  split at h
  · rename_i a0 a1
    obtain ⟨a, rfl, b, rfl, h1, h2, hk⟩ := h
    exact ⟨_, _, _, .pure _ rfl (size_spec a b h1.1 h2.1 h1.2 h2.2), hk⟩
  · exact h.elim

theorem numCmp_spec (a b : Nd) (ha : okN a) (hb : okN b) : FnSpec Try.prog f_num_Cmp [encN a, encN b] [] (.int .i64 (numN a b)) [] := by
  refine k_num_Cmp.pure (T := tabL Try.prog [(f_num_size, ctrSize)]) 0 hD (kOk_tabL (tabOk_cons ctrSize_ok tabOk_nil)) hmix (by decide) ?_
  try simp only [F_all]
  simp (maxSteps := 400000) only [↓preZ, postZ, coreZ, ↓preU, postU, D_all, F_all, unR, outL, onePV, binS, ↓binS, boundR, ↓boundR, fieldOf, ↓fieldOf, boxR, allocR, newObj, zeroElem, buildSliceR, appendR, setAll, storeR, St.freeze, makeSliceR, minmaxR, makeFuncR, BEq.rfl, reduceIte, reduceCtorEq, Nat.reduceLT, Nat.reduceAdd, Nat.reduceSub, Nat.reduceMul, Nat.reduceBEq, Nat.reduceLeDiff, Int.reduceToNat, Int.reduceLE, c_num_Cmp]
  refine wpc_weak _ (Weak.freeze 1 0 (Nat.le_refl _) _) ?_
  simp (maxSteps := 400000) only [↓preZ, postZ, coreZ, ↓preU, postU, D_all, F_all, unR, outL, onePV, binS, ↓binS, boundR, ↓boundR, fieldOf, ↓fieldOf, boxR, allocR, newObj, zeroElem, buildSliceR, appendR, setAll, storeR, St.freeze, makeSliceR, minmaxR, makeFuncR, BEq.rfl, reduceIte, reduceCtorEq, Nat.reduceLT, Nat.reduceAdd, Nat.reduceSub, Nat.reduceMul, Nat.reduceBEq, Nat.reduceLeDiff, Int.reduceToNat, Int.reduceLE, frzB0, frzB1, ↓ctrSize]
  cases hx : a.neg <;> cases hy : b.neg
  all_goals simp only [ifR, numN, hx, hy, Bool.not_true, Bool.not_false, reduceIte, Bool.and_true, Bool.and_false, Bool.and_self, Bool.false_eq_true, ha, hb]
  all_goals exact ⟨trivial, trivial, trivial⟩

theorem numN_name (a b : Nd) (x y : List UInt8) : numN { a with name := x } { b with name := y } = numN a b := rfl

def ctrNumCmp : Ctr := fun args objs K => match args with
  | [a0, a1] => ofE encN a0 (HK.mk : HK fun a => ofE encN a1 (HK.mk : HK fun b => (okN a) ∧ (okN b) ∧ K (.int .i64 (numN a b)) objs 0))
  | _ => False
theorem ctrNumCmp_ok : CtrOk Try.prog f_num_Cmp (ctrNumCmp) := by
  intro args objs K h
  unfold ctrNumCmp at h
  split at h
  · rename_i a0 a1
    obtain ⟨a, rfl, b, rfl, h1, h2, hk⟩ := h
    exact ⟨_, _, _, .pure _ rfl (numCmp_spec a b h1 h2), hk⟩
  · exact h.elim
end Lp

/-! LpW9 -/

namespace Lp
open Go Go.Proofs

set_option maxHeartbeats 4000000
set_option maxRecDepth 20000
set_option linter.unusedSimpArgs false

theorem partsV_spec (v : Vl) (hl : v.length ≤ 1099511627776) (ho : One v) : FnSpec Try.prog f_val_Parts [encV v] [] (encL (partsV v)) [] := by
  cases v with
  | nil => exact absurd rfl ho.ne
  | cons n r =>
    obtain ⟨hm, ps, h1, _, _⟩ := ho.parts
    have := parts_spec (n :: r) n r ps rfl hl hm h1
    rw [partsV, encL, (partsOf_eq h1).1, List.map_map]
    exact this

theorem namesV_spec (v : Vl) (hl : v.length ≤ 1099511627776) (ho : One v) : FnSpec Try.prog f_val_Names [encV v] [] (encT (namesV v)) [] := by
  cases v with
  | nil => exact absurd rfl ho.ne
  | cons n r =>
    obtain ⟨hm, ps, h1, _, _⟩ := ho.parts
    have := names_spec (n :: r) n r ps rfl hl hm h1
    rw [namesOf] at this
    rw [namesV, encT, (partsOf_eq h1).2]
    exact this

def ctrParts : Ctr := fun args objs K => match args with
  | [a0] => ofE encV a0 (HK.mk : HK fun v => (v.length ≤ 1099511627776) ∧ (One v) ∧ K (encL (partsV v)) objs 0)
  | _ => False
theorem ctrParts_ok : CtrOk Try.prog f_val_Parts (ctrParts) := by
  intro args objs K h
  unfold ctrParts at h
  split at h
  · rename_i a0
    obtain ⟨v, rfl, h1, h2, hk⟩ := h
    exact ⟨_, _, _, .pure _ rfl (partsV_spec v h1 h2), hk⟩
  · exact h.elim
def ctrNames : Ctr := fun args objs K => match args with
  | [a0] => ofE encV a0 (HK.mk : HK fun v => (v.length ≤ 1099511627776) ∧ (One v) ∧ K (encT (namesV v)) objs 0)
  | _ => False
theorem ctrNames_ok : CtrOk Try.prog f_val_Names (ctrNames) := by
  intro args objs K h
  unfold ctrNames at h
  split at h
  · rename_i a0
    obtain ⟨v, rfl, h1, h2, hk⟩ := h
    exact ⟨_, _, _, .pure _ rfl (namesV_spec v h1 h2), hk⟩
  · exact h.elim
def ctrSlC : Ctr := fun args objs K => match args with
  | [a0, a1] => ofE encT a0 (HK.mk : HK fun a => ofE encT a1 (HK.mk : HK fun b => (a.length ≤ 9223372036854775807) ∧ (b.length ≤ 9223372036854775807) ∧ K (.int .i64 (lexBy cmpS a b)) objs 0))
  | _ => False
theorem ctrSlC_ok : CtrOk Try.prog f_slices_Compare_L_string_string_ (ctrSlC) := by
  intro args objs K h
  unfold ctrSlC at h
  split at h
  · rename_i a0 a1
    obtain ⟨a, rfl, b, rfl, h1, h2, hk⟩ := h
    exact ⟨_, _, _, .pure _ rfl (slicesCompare_spec a b h1 h2), hk⟩
  · exact h.elim

def ctrCF (f : Nat) : Ctr := fun args objs K => match args with
  | [a0, a1, a2] => ofE encL a0 (HK.mk : HK fun x => ofE encL a1 (HK.mk : HK fun y => a2 = (.fn f_order_Cmp [] []) ∧ (x.length ≤ 9223372036854775807) ∧ (∀ p ∈ x, ∀ q ∈ y, FnSpec Try.prog f_order_Cmp [encV p, encV q] [] (.int .i64 (cmpV f p q)) []) ∧ K (.int .i64 (lexBy (cmpV f) x y)) objs 0))
  | _ => False
theorem ctrCF_ok (f : Nat) : CtrOk Try.prog f_slices_CompareFunc_L_api_Val_L_api_Val_api_Val_api_Val_ (ctrCF f) := by
  intro args objs K h
  unfold ctrCF at h
  split at h
  · rename_i a0 a1 a2
    obtain ⟨x, rfl, y, rfl, rfl, h1, h2, hk⟩ := h
    exact ⟨_, _, _, .pure _ rfl (slicesCompareFunc_spec x y _ _ h1 h2), hk⟩
  · exact h.elim

/-- What order.Cmp asks of a value. -/
structure Ok (v : Vl) : Prop where
  one : One v
  len : v.length ≤ 1099511627776
  all : ∀ n ∈ v, okN n

theorem Ok.parts {v : Vl} (h : Ok v) : (partsV v).length ≤ 1099511627776 ∧ (namesV v).length ≤ 1099511627776 ∧ ∀ p ∈ partsV v, Ok p ∧ p.length + 1 ≤ v.length := by
  cases v with
  | nil => exact absurd rfl h.one.ne
  | cons n r =>
    obtain ⟨hm, ps, h1, h2, h3⟩ := h.one.parts
    have hpl := parts_le _ _ _ h1
    have hpn := parts_len _ _ _ h1
    have hlen := h.len
    simp only [List.length_cons] at hlen
    refine ⟨?_, ?_, ?_⟩
    · rw [partsV, (partsOf_eq h1).1, List.length_map]; omega
    · rw [namesV]; split
      · rw [(partsOf_eq h1).2, List.length_map]; omega
      · simp
    · intro p hp
      rw [partsV, (partsOf_eq h1).1] at hp
      obtain ⟨q, hq, rfl⟩ := List.mem_map.1 hp
      have hql := flatten_len_mem hq
      rw [h2] at hql
      refine ⟨⟨(h3 q hq).clr, by rw [clr_length]; omega, ?_⟩, by rw [clr_length, List.length_cons]; omega⟩
      have hin : ∀ x ∈ q, okN x := fun x hx => h.all x (List.mem_cons_of_mem _ (by rw [← h2]; exact List.mem_flatten.2 ⟨q, hq, hx⟩))
      intro x hx
      cases q with
      | nil => cases hx
      | cons m s =>
        rcases List.mem_cons.1 hx with rfl | hx
        · exact hin m (List.mem_cons_self ..)
        · exact hin x (List.mem_cons_of_mem _ hx)

theorem orderCmp_spec : ∀ (f : Nat) (a b : Vl), a.length ≤ f → Ok a → Ok b → FnSpec Try.prog f_order_Cmp [encV a, encV b] [] (.int .i64 (cmpV f a b)) []
  | 0, a, b, h, ha, _ => by have := ha.one.ne; cases a <;> simp at h this
  | f + 1, [], b, _, ha, _ => absurd rfl ha.one.ne
  | f + 1, n :: r, [], _, _, hb => absurd rfl hb.one.ne
  | f + 1, n :: r, m :: q, h, ha, hb => by
    have hpa := ha.parts
    have hpb := hb.parts
    have ih : ∀ p ∈ partsV (n :: r), ∀ p' ∈ partsV (m :: q), FnSpec Try.prog f_order_Cmp [encV p, encV p'] [] (.int .i64 (cmpV f p p')) [] :=
      fun p hp p' hp' => orderCmp_spec f p p' (by have := (hpa.2.2 p hp).2; omega) (hpa.2.2 p hp).1 (hpb.2.2 p' hp').1
    refine k_order_Cmp.pure (T := tabL Try.prog [(f_cmp_Compare_int_, ctrCmpI), (f_num_Cmp, ctrNumCmp), (f_cmp_Compare_string_, ctrCmpT), (f_slices_Compare_L_string_string_, ctrSlC), (f_val_Names, ctrNames), (f_val_Parts, ctrParts), (f_slices_CompareFunc_L_api_Val_L_api_Val_api_Val_api_Val_, (ctrCF f))]) 0 hD (kOk_tabL (tabOk_cons ctrCmpI_ok (tabOk_cons ctrNumCmp_ok (tabOk_cons ctrCmpT_ok (tabOk_cons ctrSlC_ok (tabOk_cons ctrNames_ok (tabOk_cons ctrParts_ok (tabOk_cons (ctrCF_ok f) tabOk_nil)))))))) hmix (by decide) ?_
    try simp only [F_all]
    simp (maxSteps := 400000) only [↓preZ, postZ, coreZ, ↓preU, postU, D_all, F_all, unR, outL, onePV, binS, ↓binS, boundR, ↓boundR, fieldOf, ↓fieldOf, boxR, allocR, newObj, zeroElem, buildSliceR, appendR, setAll, storeR, St.freeze, makeSliceR, minmaxR, makeFuncR, BEq.rfl, reduceIte, reduceCtorEq, Nat.reduceLT, Nat.reduceAdd, Nat.reduceSub, Nat.reduceMul, Nat.reduceBEq, Nat.reduceLeDiff, Int.reduceToNat, Int.reduceLE, c_order_Cmp, ↓ctrCmpI, ↓ctrNumCmp, ↓ctrCmpT, ↓ctrSlC, ↓ctrNames, ↓ctrParts, ↓ctrCF]
    have e1 : okN n := ha.all n (List.mem_cons_self ..)
    have e2 : okN m := hb.all m (List.mem_cons_self ..)
    have l1 : r.length ≤ 1099511627775 := by have := ha.len; simp only [List.length_cons] at this; omega
    have l2 : q.length ≤ 1099511627775 := by have := hb.len; simp only [List.length_cons] at this; omega
    have l3 : (partsV (n :: r)).length ≤ 9223372036854775807 := by have := hpa.1; omega
    have l4 : (namesV (n :: r)).length ≤ 9223372036854775807 := by have := hpa.2.1; omega
    have l5 : (namesV (m :: q)).length ≤ 9223372036854775807 := by have := hpb.2.1; omega
    refine ⟨fun hk => ?_, fun hk => ?_⟩
    · have hk : n.kind = m.kind := (cmpI_ordr.zero _ _ trivial trivial).1 hk
      have k0 : ¬ (n.kind ≠ m.kind) := fun h => h hk
      refine ⟨fun h3 => ⟨e1, e2, ?_⟩, fun h3 => ⟨fun h4 => ?_, fun h4 => ⟨fun h6 => ⟨l1, ha.one, l2, hb.one, l4, l5, fun hl => ⟨l1, ha.one, l2, hb.one, l3, ih, ?_⟩, fun hl => ?_⟩, fun h6 => ⟨fun h5 => ⟨l1, ha.one, l2, hb.one, l3, ih, ?_⟩, fun h5 => ?_⟩⟩⟩⟩
      · simp only [cmpV, cmpW, if_neg k0, if_pos h3]
      · simp only [cmpV, cmpW, if_neg k0, if_neg h3, if_pos h4]
      · have h5 : ¬ n.kind = 5 := by omega
        have h6' : m.kind = 6 := by omega
        simp only [namesV, if_pos h6, if_pos h6'] at hl
        simp only [cmpV, cmpW, if_neg k0, if_neg h3, if_neg h4, if_neg h5, if_pos h6, if_pos hl, partsV]
      · have h5 : ¬ n.kind = 5 := by omega
        have h6' : m.kind = 6 := by omega
        simp only [namesV, if_pos h6, if_pos h6'] at hl ⊢
        simp only [cmpV, cmpW, if_neg k0, if_neg h3, if_neg h4, if_neg h5, if_pos h6, if_neg hl]
      · simp only [cmpV, cmpW, if_neg k0, if_neg h3, if_neg h4, if_pos h5, partsV]
      · simp only [cmpV, cmpW, if_neg k0, if_neg h3, if_neg h4, if_neg h5, if_neg h6]
    · have hk' : n.kind ≠ m.kind := fun h => hk ((cmpI_ordr.zero _ _ trivial trivial).2 h)
      simp only [cmpV, cmpW, if_pos hk']

def ctrOrdCmp (f : Nat) : Ctr := fun args objs K => match args with
  | [a0, a1] => ofE encV a0 (HK.mk : HK fun a => ofE encV a1 (HK.mk : HK fun b => (a.length ≤ f) ∧ (Ok a) ∧ (Ok b) ∧ K (.int .i64 (cmpV f a b)) objs 0))
  | _ => False
theorem ctrOrdCmp_ok (f : Nat) : CtrOk Try.prog f_order_Cmp (ctrOrdCmp f) := by
  intro args objs K h
  unfold ctrOrdCmp at h
  split at h
  · rename_i a0 a1
    obtain ⟨a, rfl, b, rfl, h1, h2, h3, hk⟩ := h
    exact ⟨_, _, _, .pure _ rfl (orderCmp_spec f a b h1 h2 h3), hk⟩
  · exact h.elim
end Lp

/-! LpW10 -/

namespace Lp
open Go Go.Proofs

set_option maxHeartbeats 4000000
set_option maxRecDepth 20000
set_option linter.unusedSimpArgs false

/-- Keys that are asked about. -/
def OkL (f : Nat) (l : List Vl) : Prop := l.length ≤ f ∧ ∀ v ∈ l, v.length ≤ f ∧ Ok v

def risesV (f : Nat) : List Vl → Bool
  | a :: b :: l => decide (0 ≤ cmpV f b a) && risesV f (b :: l)
  | _ => true

theorem risesV_iff (f : Nat) : ∀ l : List Vl, risesV f l = true ↔ ∀ j a b, l[j]? = some a → l[j + 1]? = some b → 0 ≤ cmpV f b a
  | [] => by simp [risesV]
  | [a] => by simp [risesV]
  | a :: b :: l => by
    rw [risesV, Bool.and_eq_true, decide_eq_true_eq, risesV_iff f (b :: l)]
    constructor
    · rintro ⟨h1, h2⟩ j x y hx hy
      cases j with
      | zero =>
        simp only [List.getElem?_cons_zero, List.getElem?_cons_succ, Option.some.injEq] at hx hy
        subst hx hy; exact h1
      | succ j => exact h2 j x y (by simpa using hx) (by simpa using hy)
    · intro h
      exact ⟨h 0 a b rfl rfl, fun j x y hx hy => h (j + 1) x y (by simpa using hx) (by simpa using hy)⟩

theorem isSorted_spec (f : Nat) (keys : List Vl) (hk : OkL f keys) (hf : f ≤ 1099511627776) : FnSpec Try.prog f_slices_IsSortedFunc_L_api_Val_api_Val_ [encL keys, .fn f_order_Cmp [] []] [] (.bool (risesV f keys)) [] := by
  obtain ⟨hl, hk⟩ := hk
  refine k_slices_IsSortedFunc_L_api_Val_api_Val_.pure (T := tabL Try.prog [(f_order_Cmp, (ctrOrdCmp f))]) 0 hD (kOk_tabL (tabOk_cons (ctrOrdCmp_ok f) tabOk_nil)) hmix (by decide) ?_
  try simp only [F_all]
  simp (maxSteps := 400000) only [↓preZ, postZ, coreZ, ↓preU, postU, D_all, F_all, unR, outL, onePV, binS, ↓binS, boundR, ↓boundR, fieldOf, ↓fieldOf, boxR, allocR, newObj, zeroElem, buildSliceR, appendR, setAll, storeR, St.freeze, makeSliceR, minmaxR, makeFuncR, BEq.rfl, reduceIte, reduceCtorEq, Nat.reduceLT, Nat.reduceAdd, Nat.reduceSub, Nat.reduceMul, Nat.reduceBEq, Nat.reduceLeDiff, Int.reduceToNat, Int.reduceLE, c_slices_IsSortedFunc_L_api_Val_api_Val_]
  refine ⟨⟨by omega, by omega⟩, ?_⟩
  refine wpc_loop (fun m S => ∃ i : Int, -1 ≤ i ∧ i < keys.length ∧ (m : Int) = i + 1 ∧ (∀ j : Nat, i ≤ j → ∀ a b, keys[j]? = some a → keys[j + 1]? = some b → 0 ≤ cmpV f b a) ∧
    S = ⟨tmA 25 [(0, encL keys), (1, .fn f_order_Cmp [] []), (5, .int .i64 i)], []⟩) keys.length ⟨(keys.length : Int) - 1, by omega, by omega, by omega, ?_, ?_⟩ ?_
  · intro j hj a b _ hb
    have := (List.getElem?_eq_some_iff.1 hb).1
    omega
  · simp only [normR, keepR, Nat.reduceAdd, lkR, Nat.reduceBEq, F_all, List.map_nil]
  rintro m S ⟨i, hi, hil, hm, hj, rfl⟩
  simp (maxSteps := 400000) only [↓preZ, postZ, coreZ, ↓preU, postU, D_all, F_all, unR, outL, onePV, binS, ↓binS, boundR, ↓boundR, fieldOf, ↓fieldOf, boxR, allocR, newObj, zeroElem, buildSliceR, appendR, setAll, storeR, St.freeze, makeSliceR, minmaxR, makeFuncR, BEq.rfl, reduceIte, reduceCtorEq, Nat.reduceLT, Nat.reduceAdd, Nat.reduceSub, Nat.reduceMul, Nat.reduceBEq, Nat.reduceLeDiff, Int.reduceToNat, Int.reduceLE, ↓ctrOrdCmp]
  refine ⟨fun h0 => ⟨by omega, ?_⟩, fun h0 => ?_⟩
  · obtain ⟨i, rfl⟩ : ∃ k : Nat, i = k + 1 := ⟨(i - 1).toNat, by omega⟩
    have g1 : keys[i + 1]? = some keys[i + 1] := List.getElem?_eq_getElem (by omega)
    have g2 : keys[i]? = some keys[i] := List.getElem?_eq_getElem (by omega)
    have t1 : ((i : Int) + 1).toNat = i + 1 := by omega
    have t2 : ((i : Int) + 1 - 1).toNat = i := by omega
    have o1 := hk keys[i] (List.getElem_mem _)
    have o2 := hk keys[i + 1] (List.getElem_mem _)
    simp (maxSteps := 400000) only [↓preZ, postZ, coreZ, ↓preU, postU, D_all, F_all, unR, outL, onePV, binS, ↓binS, boundR, ↓boundR, fieldOf, ↓fieldOf, boxR, allocR, newObj, zeroElem, buildSliceR, appendR, setAll, storeR, St.freeze, makeSliceR, minmaxR, makeFuncR, BEq.rfl, reduceIte, reduceCtorEq, Nat.reduceLT, Nat.reduceAdd, Nat.reduceSub, Nat.reduceMul, Nat.reduceBEq, Nat.reduceLeDiff, Int.reduceToNat, Int.reduceLE, ↓ctrOrdCmp, t1, t2, g1, g2]
    refine ⟨⟨by omega, by omega⟩, by omega, o2.1, o2.2, o1.2, fun hlt => ?_, fun hge => ⟨⟨by omega, by omega⟩, i + 1, by omega, i, by omega, by omega, by omega, ?_, ?_⟩⟩
    · cases hr : risesV f keys with
      | false => rfl
      | true =>
        have := (risesV_iff f keys).1 hr i _ _ g2 g1
        omega
    · intro j hj' a b ha hb
      by_cases hji : j = i
      · subst hji
        rw [g2] at ha; rw [g1] at hb
        cases ha; cases hb
        omega
      · exact hj j (by omega) a b ha hb
    · have : (i : Int) + 1 - 1 = i := by omega
      rw [this]
  · rw [risesV_iff]
    intro j a b ha hb
    by_cases hi0 : i ≤ j
    · exact hj j hi0 a b ha hb
    · omega

def ctrIsS (f : Nat) : Ctr := fun args objs K => match args with
  | [a0, a1] => ofE encL a0 (HK.mk : HK fun keys => a1 = (.fn f_order_Cmp [] []) ∧ (OkL f keys) ∧ (f ≤ 1099511627776) ∧ K (.bool (risesV f keys)) objs 0)
  | _ => False
theorem ctrIsS_ok (f : Nat) : CtrOk Try.prog f_slices_IsSortedFunc_L_api_Val_api_Val_ (ctrIsS f) := by
  intro args objs K h
  unfold ctrIsS at h
  split at h
  · rename_i a0 a1
    obtain ⟨keys, rfl, rfl, h1, h2, hk⟩ := h
    exact ⟨_, _, _, .pure _ rfl (isSorted_spec f keys h1 h2), hk⟩
  · exact h.elim

theorem rises_spec (f : Nat) (keys : List Vl) (hk : OkL f keys) (hf : f ≤ 1099511627776) : FnSpec Try.prog f_order_Rises [encL keys] [] (.bool (risesV f keys)) [] := by
  have hs := isSorted_spec f keys hk hf
  refine k_order_Rises.pure (T := tabL Try.prog [(f_slices_IsSortedFunc_L_api_Val_api_Val_, (ctrIsS f))]) 0 hD (kOk_tabL (tabOk_cons (ctrIsS_ok f) tabOk_nil)) hmix (by decide) ?_
  try simp only [F_all]
  simp (maxSteps := 400000) only [↓preZ, postZ, coreZ, ↓preU, postU, D_all, F_all, unR, outL, onePV, binS, ↓binS, boundR, ↓boundR, fieldOf, ↓fieldOf, boxR, allocR, newObj, zeroElem, buildSliceR, appendR, setAll, storeR, St.freeze, makeSliceR, minmaxR, makeFuncR, BEq.rfl, reduceIte, reduceCtorEq, Nat.reduceLT, Nat.reduceAdd, Nat.reduceSub, Nat.reduceMul, Nat.reduceBEq, Nat.reduceLeDiff, Int.reduceToNat, Int.reduceLE, c_order_Rises, ↓ctrIsS]
  exact ⟨hk, hf⟩
end Lp
