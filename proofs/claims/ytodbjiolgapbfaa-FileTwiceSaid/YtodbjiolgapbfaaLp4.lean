/-
  Part 4 of what the statement rests on: LpC3, LpX, LpUse, LpY, LpZ, LpRes, LpEq. No condition.
-/
import Derived.Test.YtodbjiolgapbfaaLp3
import Derived.Deep.Slices
import Derived.ChangeShapes
import Derived.SizedLaws
import Derived.JoinedOf
import Derived.Below
import Derived.Carry
import Derived.ChangeOld
import Derived.RowKit
import Derived.OpenShut
import Derived.Laws.StructEq

set_option linter.all false

/-! LpC3 -/

namespace Lp
open Go Go.Proofs
def c_loupelaw23_FileTells : LC :=
  (.seq (.reg [⟨some 3, .box t_api_Disk (.tmp 0), none, false⟩,
   ⟨some 4, .box t_api_Disk (.tmp 1), none, false⟩,
   ⟨some 6, .assign (.const (.bool false)), none, false⟩])
  (.seq (.seq (.weak (.reg [⟨some 12, .load t_api_Disk (.tmp 3), none, false⟩,
   ⟨some 13, .call ⟨.value (.func f_louperef23_Small), ⟨[(.tmp 12)]⟩, ⟨[t_api_Disk]⟩⟩, none, false⟩,
   ⟨some 14, .unOp .not t_bool (.tmp 13), none, false⟩,
   ⟨some 15, .move (.tmp 14), none, false⟩,
   ⟨some 16, .load t_api_Disk (.tmp 4), some (some 15, false), false⟩,
   ⟨some 17, .call ⟨.value (.func f_louperef23_Small), ⟨[(.tmp 16)]⟩, ⟨[t_api_Disk]⟩⟩, some (some 15, false), false⟩,
   ⟨some 18, .unOp .not t_bool (.tmp 17), some (some 15, false), false⟩,
   ⟨some 19, .pick (.tmp 15) (.const (.bool true)) (.tmp 18), none, false⟩,
   ⟨some 20, .move (.tmp 19), none, false⟩,
   ⟨some 21, .move (.tmp 2), some (some 20, false), false⟩,
   ⟨some 22, .call ⟨.builtin .len, ⟨[(.tmp 21)]⟩, ⟨[t_string]⟩⟩, some (some 20, false), false⟩,
   ⟨some 23, .binOp .gtr t_int (.tmp 22) (.const (.int .i64 100)) t_int, some (some 20, false), false⟩,
   ⟨some 24, .pick (.tmp 20) (.const (.bool true)) (.tmp 23), none, false⟩]))
  (.cond (.tmp 24)
   (.seq (.reg [⟨some 25, .call ⟨.value (.func f_loupelaw23_alive), ⟨[]⟩, ⟨[]⟩⟩, none, false⟩,
    ⟨some 6, .assign (.tmp 25), none, false⟩])
   .ret)
   .skip))
  (.seq (.reg [⟨some 26, .load t_api_Disk (.tmp 3), none, false⟩,
   ⟨some 27, .call ⟨.value (.func f_louperef23_Right), ⟨[(.tmp 26)]⟩, ⟨[t_api_Disk]⟩⟩, none, false⟩,
   ⟨some 7, .assign (.tmp 27), none, false⟩])
  (.seq (.seq (.draw [⟨some 28, .load t_api_Disk (.tmp 3), none, false⟩,
   ⟨some 29, .call ⟨.value (.func f_file_Right), ⟨[(.tmp 28)]⟩, ⟨[t_api_Disk]⟩⟩, none, false⟩,
   ⟨some 30, .move (.tmp 7), none, false⟩,
   ⟨some 31, .binOp .neq t_bool (.tmp 29) (.tmp 30) t_bool, none, false⟩,
   ⟨some 32, .move (.tmp 31), none, false⟩,
   ⟨some 33, .load t_api_Disk (.tmp 3), some (some 32, false), false⟩,
   ⟨some 34, .load t_api_Disk (.tmp 4), some (some 32, false), false⟩,
   ⟨some 35, .call ⟨.value (.func f_file_Same), ⟨[(.tmp 33), (.tmp 34)]⟩, ⟨[t_api_Disk, t_api_Disk]⟩⟩, some (some 32, false), false⟩,
   ⟨some 36, .load t_api_Disk (.tmp 3), some (some 32, false), false⟩,
   ⟨some 37, .load t_api_Disk (.tmp 4), some (some 32, false), false⟩,
   ⟨some 38, .call ⟨.value (.func f_louperef23_Same), ⟨[(.tmp 36), (.tmp 37)]⟩, ⟨[t_api_Disk, t_api_Disk]⟩⟩, some (some 32, false), false⟩,
   ⟨some 39, .binOp .neq t_bool (.tmp 35) (.tmp 38) t_bool, some (some 32, false), false⟩,
   ⟨some 40, .pick (.tmp 32) (.const (.bool true)) (.tmp 39), none, false⟩]
  [0, 0, 3, 0, 0, 0, 32, 0, 224, 480, 0, 0, 0])
  (.cond (.tmp 40)
   (.seq (.reg [⟨some 6, .assign (.const (.bool false)), none, false⟩])
   .ret)
   .skip))
  (.seq (.seq (.reg [⟨some 41, .move (.tmp 7), none, false⟩,
   ⟨some 42, .unOp .not t_bool (.tmp 41), none, false⟩])
  (.cond (.tmp 42)
   (.seq (.reg [⟨some 43, .call ⟨.value (.func f_loupelaw23_alive), ⟨[]⟩, ⟨[]⟩⟩, none, false⟩,
    ⟨some 6, .assign (.tmp 43), none, false⟩])
   .ret)
   .skip))
  (.seq (.reg [⟨some 45, .load t_api_Disk (.tmp 3), none, false⟩,
   ⟨some 46, .move (.tmp 2), none, false⟩,
   ⟨some 47, .call ⟨.value (.func f_file_See), ⟨[(.tmp 45), (.tmp 46)]⟩, ⟨[t_api_Disk, t_string]⟩⟩, none, false⟩,
   ⟨some 44, .move (.tmp 47), none, false⟩,
   ⟨some 48, .extract (.tmp 44) 0, none, false⟩,
   ⟨some 49, .extract (.tmp 44) 1, none, false⟩,
   ⟨some 8, .assign (.tmp 48), none, false⟩,
   ⟨some 9, .assign (.tmp 49), none, false⟩])
  (.seq (.reg [⟨some 51, .load t_api_Disk (.tmp 3), none, false⟩,
   ⟨some 52, .move (.tmp 2), none, false⟩,
   ⟨some 53, .call ⟨.value (.func f_louperef23_See), ⟨[(.tmp 51), (.tmp 52)]⟩, ⟨[t_api_Disk, t_string]⟩⟩, none, false⟩,
   ⟨some 50, .move (.tmp 53), none, false⟩,
   ⟨some 54, .extract (.tmp 50) 0, none, false⟩,
   ⟨some 55, .extract (.tmp 50) 1, none, false⟩,
   ⟨some 10, .assign (.tmp 54), none, false⟩,
   ⟨some 11, .assign (.tmp 55), none, false⟩])
  (.seq (.reg [⟨some 56, .call ⟨.value (.func f_loupelaw23_alive), ⟨[]⟩, ⟨[]⟩⟩, none, false⟩,
   ⟨some 57, .move (.tmp 56), none, false⟩,
   ⟨some 58, .move (.tmp 8), some (some 57, true), false⟩,
   ⟨some 59, .move (.tmp 10), some (some 57, true), false⟩,
   ⟨some 60, .binOp .eql t_string (.tmp 58) (.tmp 59) t_string, some (some 57, true), false⟩,
   ⟨some 61, .pick (.tmp 57) (.tmp 60) (.const (.bool false)), none, false⟩,
   ⟨some 62, .move (.tmp 61), none, false⟩,
   ⟨some 63, .move (.tmp 9), some (some 62, true), false⟩,
   ⟨some 64, .move (.tmp 11), some (some 62, true), false⟩,
   ⟨some 65, .binOp .eql t_bool (.tmp 63) (.tmp 64) t_bool, some (some 62, true), false⟩,
   ⟨some 66, .pick (.tmp 62) (.tmp 65) (.const (.bool false)), none, false⟩,
   ⟨some 6, .assign (.tmp 66), none, false⟩])
  .ret))))))))
theorem k_loupelaw23_FileTells : FnOk Try.prog f_loupelaw23_FileTells 67 [.tmp 6] c_loupelaw23_FileTells := ⟨_, _, Try.func9, by kernel_rfl, rfl, Try.ntmps9, rfl, by kernel_rfl⟩

def c_loupelaw23_FileDoes : LC :=
  (.seq (.reg [⟨some 3, .box t_api_Disk (.tmp 0), none, false⟩,
   ⟨some 4, .box t_api_Deed (.tmp 1), none, false⟩,
   ⟨some 6, .assign (.const (.bool false)), none, false⟩])
  (.seq (.seq (.weak (.reg [⟨some 11, .load t_api_Disk (.tmp 3), none, false⟩,
   ⟨some 12, .call ⟨.value (.func f_louperef23_Few), ⟨[(.tmp 11)]⟩, ⟨[t_api_Disk]⟩⟩, none, false⟩,
   ⟨some 13, .unOp .not t_bool (.tmp 12), none, false⟩,
   ⟨some 14, .move (.tmp 13), none, false⟩,
   ⟨some 15, .fieldAddr t_api_Deed (.tmp 4) 1, some (some 14, false), false⟩,
   ⟨some 16, .load t_string (.tmp 15), some (some 14, false), false⟩,
   ⟨some 17, .call ⟨.builtin .len, ⟨[(.tmp 16)]⟩, ⟨[t_string]⟩⟩, some (some 14, false), false⟩,
   ⟨some 18, .binOp .gtr t_int (.tmp 17) (.const (.int .i64 100)) t_int, some (some 14, false), false⟩,
   ⟨some 19, .pick (.tmp 14) (.const (.bool true)) (.tmp 18), none, false⟩,
   ⟨some 20, .move (.tmp 19), none, false⟩,
   ⟨some 21, .fieldAddr t_api_Deed (.tmp 4) 2, some (some 20, false), false⟩,
   ⟨some 22, .load t_string (.tmp 21), some (some 20, false), false⟩,
   ⟨some 23, .call ⟨.builtin .len, ⟨[(.tmp 22)]⟩, ⟨[t_string]⟩⟩, some (some 20, false), false⟩,
   ⟨some 24, .binOp .gtr t_int (.tmp 23) (.const (.int .i64 2000)) t_int, some (some 20, false), false⟩,
   ⟨some 25, .pick (.tmp 20) (.const (.bool true)) (.tmp 24), none, false⟩]))
  (.cond (.tmp 25)
   (.seq (.reg [⟨some 26, .call ⟨.value (.func f_loupelaw23_alive), ⟨[]⟩, ⟨[]⟩⟩, none, false⟩,
    ⟨some 6, .assign (.tmp 26), none, false⟩])
   .ret)
   .skip))
  (.seq (.reg [⟨some 28, .load t_api_Disk (.tmp 3), none, false⟩,
   ⟨some 29, .load t_api_Deed (.tmp 4), none, false⟩,
   ⟨some 30, .call ⟨.value (.func f_file_Do), ⟨[(.tmp 28), (.tmp 29)]⟩, ⟨[t_api_Disk, t_api_Deed]⟩⟩, none, false⟩,
   ⟨some 27, .move (.tmp 30), none, false⟩,
   ⟨some 31, .extract (.tmp 27) 0, none, false⟩,
   ⟨some 32, .extract (.tmp 27) 1, none, false⟩,
   ⟨some 7, .alloc t_api_Disk, none, false⟩,
   ⟨none, .store t_api_Disk (.tmp 7) (.tmp 31), none, false⟩,
   ⟨some 8, .assign (.tmp 32), none, false⟩])
  (.seq (.reg [⟨some 34, .load t_api_Disk (.tmp 3), none, false⟩,
   ⟨some 35, .load t_api_Deed (.tmp 4), none, false⟩,
   ⟨some 36, .call ⟨.value (.func f_louperef23_Do), ⟨[(.tmp 34), (.tmp 35)]⟩, ⟨[t_api_Disk, t_api_Deed]⟩⟩, none, false⟩,
   ⟨some 33, .move (.tmp 36), none, false⟩,
   ⟨some 37, .extract (.tmp 33) 0, none, false⟩,
   ⟨some 38, .extract (.tmp 33) 1, none, false⟩,
   ⟨some 9, .alloc t_api_Disk, none, false⟩,
   ⟨none, .store t_api_Disk (.tmp 9) (.tmp 37), none, false⟩,
   ⟨some 10, .assign (.tmp 38), none, false⟩])
  (.seq (.draw [⟨some 39, .call ⟨.value (.func f_loupelaw23_alive), ⟨[]⟩, ⟨[]⟩⟩, none, false⟩,
   ⟨some 40, .move (.tmp 39), none, false⟩,
   ⟨some 41, .load t_api_Disk (.tmp 7), some (some 40, true), false⟩,
   ⟨some 42, .load t_api_Disk (.tmp 9), some (some 40, true), false⟩,
   ⟨some 43, .call ⟨.value (.func f_louperef23_Same), ⟨[(.tmp 41), (.tmp 42)]⟩, ⟨[t_api_Disk, t_api_Disk]⟩⟩, some (some 40, true), false⟩,
   ⟨some 44, .pick (.tmp 40) (.tmp 43) (.const (.bool false)), none, false⟩,
   ⟨some 45, .move (.tmp 44), none, false⟩,
   ⟨some 46, .move (.tmp 8), some (some 45, true), false⟩,
   ⟨some 47, .move (.tmp 10), some (some 45, true), false⟩,
   ⟨some 48, .binOp .eql t_api_Errno (.tmp 46) (.tmp 47) t_api_Errno, some (some 45, true), false⟩,
   ⟨some 49, .pick (.tmp 45) (.tmp 48) (.const (.bool false)), none, false⟩,
   ⟨some 50, .move (.tmp 49), none, false⟩,
   ⟨some 51, .load t_api_Disk (.tmp 3), some (some 50, true), false⟩,
   ⟨some 52, .move (.tmp 2), some (some 50, true), false⟩,
   ⟨some 53, .call ⟨.value (.func f_file_Crash), ⟨[(.tmp 51), (.tmp 52)]⟩, ⟨[t_api_Disk, t_int]⟩⟩, some (some 50, true), false⟩,
   ⟨some 54, .load t_api_Disk (.tmp 3), some (some 50, true), false⟩,
   ⟨some 55, .move (.tmp 2), some (some 50, true), false⟩,
   ⟨some 56, .call ⟨.value (.func f_louperef23_Crash), ⟨[(.tmp 54), (.tmp 55)]⟩, ⟨[t_api_Disk, t_int]⟩⟩, some (some 50, true), false⟩,
   ⟨some 57, .call ⟨.value (.func f_louperef23_Same), ⟨[(.tmp 53), (.tmp 56)]⟩, ⟨[t_api_Disk, t_api_Disk]⟩⟩, some (some 50, true), false⟩,
   ⟨some 58, .pick (.tmp 50) (.tmp 57) (.const (.bool false)), none, false⟩,
   ⟨some 6, .assign (.tmp 58), none, false⟩]
  [0, 0, 0, 4, 0, 0, 0, 0, 128, 0, 0, 0, 0, 4096, 0, 28672, 61440, 0, 0, 0, 0])
  .ret)))))
theorem k_loupelaw23_FileDoes : FnOk Try.prog f_loupelaw23_FileDoes 59 [.tmp 6] c_loupelaw23_FileDoes := ⟨_, _, Try.func10, by kernel_rfl, rfl, Try.ntmps10, rfl, by kernel_rfl⟩

def c_loupelaw23_FileSaves : LC :=
  (.seq (.reg [⟨some 1, .box t_loupelaw23_SaveIn (.tmp 0), none, false⟩,
   ⟨some 2, .assign (.const (.bool false)), none, false⟩])
  (.seq (.seq (.weak (.reg [⟨some 12, .load t_loupelaw23_SaveIn (.tmp 1), none, false⟩,
   ⟨some 13, .call ⟨.value (.func f__loupelaw23_SaveIn__given), ⟨[(.tmp 12)]⟩, ⟨[t_loupelaw23_SaveIn]⟩⟩, none, false⟩,
   ⟨some 14, .unOp .not t_bool (.tmp 13), none, false⟩]))
  (.cond (.tmp 14)
   (.seq (.reg [⟨some 15, .call ⟨.value (.func f_loupelaw23_alive), ⟨[]⟩, ⟨[]⟩⟩, none, false⟩,
    ⟨some 2, .assign (.tmp 15), none, false⟩])
   .ret)
   .skip))
  (.seq (.reg [⟨some 17, .fieldAddr t_loupelaw23_SaveIn (.tmp 1) 0, none, false⟩,
   ⟨some 18, .load t_api_Disk (.tmp 17), none, false⟩,
   ⟨some 19, .fieldAddr t_loupelaw23_SaveIn (.tmp 1) 1, none, false⟩,
   ⟨some 20, .load t_string (.tmp 19), none, false⟩,
   ⟨some 21, .fieldAddr t_loupelaw23_SaveIn (.tmp 1) 2, none, false⟩,
   ⟨some 22, .load t_string (.tmp 21), none, false⟩,
   ⟨some 23, .fieldAddr t_loupelaw23_SaveIn (.tmp 1) 3, none, false⟩,
   ⟨some 24, .load t_int (.tmp 23), none, false⟩,
   ⟨some 25, .call ⟨.value (.func f_file_Save), ⟨[(.tmp 18), (.tmp 20), (.tmp 22), (.tmp 24)]⟩, ⟨[t_api_Disk, t_string, t_string, t_int]⟩⟩, none, false⟩,
   ⟨some 16, .move (.tmp 25), none, false⟩,
   ⟨some 26, .extract (.tmp 16) 0, none, false⟩,
   ⟨some 27, .extract (.tmp 16) 1, none, false⟩,
   ⟨some 28, .extract (.tmp 16) 2, none, false⟩,
   ⟨some 3, .alloc t_api_Disk, none, false⟩,
   ⟨none, .store t_api_Disk (.tmp 3) (.tmp 26), none, false⟩,
   ⟨some 4, .assign (.tmp 27), none, false⟩,
   ⟨some 5, .assign (.tmp 28), none, false⟩])
  (.seq (.reg [⟨some 30, .fieldAddr t_loupelaw23_SaveIn (.tmp 1) 0, none, false⟩,
   ⟨some 31, .load t_api_Disk (.tmp 30), none, false⟩,
   ⟨some 32, .fieldAddr t_loupelaw23_SaveIn (.tmp 1) 1, none, false⟩,
   ⟨some 33, .load t_string (.tmp 32), none, false⟩,
   ⟨some 34, .fieldAddr t_loupelaw23_SaveIn (.tmp 1) 2, none, false⟩,
   ⟨some 35, .load t_string (.tmp 34), none, false⟩,
   ⟨some 36, .fieldAddr t_loupelaw23_SaveIn (.tmp 1) 3, none, false⟩,
   ⟨some 37, .load t_int (.tmp 36), none, false⟩,
   ⟨some 38, .call ⟨.value (.func f_louperef23_Save), ⟨[(.tmp 31), (.tmp 33), (.tmp 35), (.tmp 37)]⟩, ⟨[t_api_Disk, t_string, t_string, t_int]⟩⟩, none, false⟩,
   ⟨some 29, .move (.tmp 38), none, false⟩,
   ⟨some 39, .extract (.tmp 29) 0, none, false⟩,
   ⟨some 40, .extract (.tmp 29) 1, none, false⟩,
   ⟨some 41, .extract (.tmp 29) 2, none, false⟩,
   ⟨some 6, .alloc t_api_Disk, none, false⟩,
   ⟨none, .store t_api_Disk (.tmp 6) (.tmp 39), none, false⟩,
   ⟨some 7, .assign (.tmp 40), none, false⟩,
   ⟨some 8, .assign (.tmp 41), none, false⟩])
  (.seq (.reg [⟨some 42, .fieldAddr t_loupelaw23_SaveIn (.tmp 1) 1, none, false⟩,
   ⟨some 43, .load t_string (.tmp 42), none, false⟩,
   ⟨some 44, .fieldAddr t_loupelaw23_SaveIn (.tmp 1) 2, none, false⟩,
   ⟨some 45, .load t_string (.tmp 44), none, false⟩,
   ⟨some 46, .call ⟨.value (.func f_file_Plan), ⟨[(.tmp 43), (.tmp 45)]⟩, ⟨[t_string, t_string]⟩⟩, none, false⟩,
   ⟨some 9, .assign (.tmp 46), none, false⟩])
  (.seq (.reg [⟨some 47, .fieldAddr t_loupelaw23_SaveIn (.tmp 1) 1, none, false⟩,
   ⟨some 48, .load t_string (.tmp 47), none, false⟩,
   ⟨some 49, .fieldAddr t_loupelaw23_SaveIn (.tmp 1) 2, none, false⟩,
   ⟨some 50, .load t_string (.tmp 49), none, false⟩,
   ⟨some 51, .call ⟨.value (.func f_louperef23_Plan), ⟨[(.tmp 48), (.tmp 50)]⟩, ⟨[t_string, t_string]⟩⟩, none, false⟩,
   ⟨some 10, .assign (.tmp 51), none, false⟩])
  (.seq (.seq (.reg [⟨some 52, .move (.tmp 9), none, false⟩,
   ⟨some 53, .call ⟨.builtin .len, ⟨[(.tmp 52)]⟩, ⟨[t_L_api_Deed]⟩⟩, none, false⟩,
   ⟨some 54, .move (.tmp 10), none, false⟩,
   ⟨some 55, .call ⟨.builtin .len, ⟨[(.tmp 54)]⟩, ⟨[t_L_api_Deed]⟩⟩, none, false⟩,
   ⟨some 56, .binOp .neq t_int (.tmp 53) (.tmp 55) t_int, none, false⟩])
  (.cond (.tmp 56)
   (.seq (.reg [⟨some 2, .assign (.const (.bool false)), none, false⟩])
   .ret)
   .skip))
  (.seq (.seq (.reg [⟨some 11, .assign (.const (.int .i64 0)), none, false⟩])
  (.block 0 (.loop [false, false, false, true, true, true, true, true, true, true, true, true, false, false, false, false, false, false, false, false, false, false, false, false, false, false, false, false, false, false, false, false, false, false, false, false, false, false, false, false, false, false, false, false, false, false, false, false, false, false, false, false, false, false, false, false, false, false, false, false, false, false, false, false, false, false, false, false, false, false, false, false, false, false, false, false, false, false, false, false, false, false, false, false, false, false, false, false] none
   (.seq (.seq (.reg [⟨some 57, .move (.tmp 11), none, false⟩,
     ⟨some 58, .move (.tmp 9), none, false⟩,
     ⟨some 59, .call ⟨.builtin .len, ⟨[(.tmp 58)]⟩, ⟨[t_L_api_Deed]⟩⟩, none, false⟩,
     ⟨some 60, .binOp .lss t_int (.tmp 57) (.tmp 59) t_int, none, false⟩])
    (.cond (.tmp 60)
     .skip
     (.exit 0)))
    (.seq (.block 1 (.seq (.draw [⟨some 63, .move (.tmp 9), none, false⟩,
      ⟨some 64, .move (.tmp 11), none, false⟩,
      ⟨some 65, .indexAddr t_L_api_Deed (.tmp 63) (.tmp 64), none, false⟩,
      ⟨some 66, .load t_api_Deed (.tmp 65), none, false⟩,
      ⟨some 67, .move (.tmp 10), none, false⟩,
      ⟨some 68, .move (.tmp 11), none, false⟩,
      ⟨some 69, .indexAddr t_L_api_Deed (.tmp 67) (.tmp 68), none, false⟩,
      ⟨some 70, .load t_api_Deed (.tmp 69), none, false⟩,
      ⟨some 71, .binOp .neq t_api_Deed (.tmp 66) (.tmp 70) t_api_Deed, none, false⟩]
     [0, 1, 0, 0, 15, 31, 15, 15, 0])
     (.cond (.tmp 71)
      (.seq (.reg [⟨some 2, .assign (.const (.bool false)), none, false⟩])
      .ret)
      .skip)))
    (.reg [⟨some 61, .move (.tmp 11), none, false⟩,
     ⟨some 62, .binOp .add t_int (.tmp 61) (.const (.int .i64 1)) t_int, none, false⟩,
     ⟨some 11, .assign (.tmp 62), none, false⟩]))))))
  (.seq (.reg [⟨some 72, .call ⟨.value (.func f_loupelaw23_alive), ⟨[]⟩, ⟨[]⟩⟩, none, false⟩,
   ⟨some 73, .move (.tmp 72), none, false⟩,
   ⟨some 74, .load t_api_Disk (.tmp 3), some (some 73, true), false⟩,
   ⟨some 75, .load t_api_Disk (.tmp 6), some (some 73, true), false⟩,
   ⟨some 76, .call ⟨.value (.func f_louperef23_Same), ⟨[(.tmp 74), (.tmp 75)]⟩, ⟨[t_api_Disk, t_api_Disk]⟩⟩, some (some 73, true), false⟩,
   ⟨some 77, .pick (.tmp 73) (.tmp 76) (.const (.bool false)), none, false⟩,
   ⟨some 78, .move (.tmp 77), none, false⟩,
   ⟨some 79, .move (.tmp 4), some (some 78, true), false⟩,
   ⟨some 80, .move (.tmp 7), some (some 78, true), false⟩,
   ⟨some 81, .binOp .eql t_int (.tmp 79) (.tmp 80) t_int, some (some 78, true), false⟩,
   ⟨some 82, .pick (.tmp 78) (.tmp 81) (.const (.bool false)), none, false⟩,
   ⟨some 83, .move (.tmp 82), none, false⟩,
   ⟨some 84, .move (.tmp 5), some (some 83, true), false⟩,
   ⟨some 85, .move (.tmp 8), some (some 83, true), false⟩,
   ⟨some 86, .binOp .eql t_api_Errno (.tmp 84) (.tmp 85) t_api_Errno, some (some 83, true), false⟩,
   ⟨some 87, .pick (.tmp 83) (.tmp 86) (.const (.bool false)), none, false⟩,
   ⟨some 2, .assign (.tmp 87), none, false⟩])
  .ret)))))))))
theorem k_loupelaw23_FileSaves : FnOk Try.prog f_loupelaw23_FileSaves 88 [.tmp 2] c_loupelaw23_FileSaves := ⟨_, _, Try.func11, by kernel_rfl, rfl, Try.ntmps11, rfl, by kernel_rfl⟩

def c_loupelaw23_FileOneOr : LC :=
  (.seq (.reg [⟨some 1, .box t_loupelaw23_SaveIn (.tmp 0), none, false⟩,
   ⟨some 2, .assign (.const (.bool false)), none, false⟩])
  (.seq (.seq (.weak (.reg [⟨some 17, .load t_loupelaw23_SaveIn (.tmp 1), none, false⟩,
   ⟨some 18, .call ⟨.value (.func f__loupelaw23_SaveIn__given), ⟨[(.tmp 17)]⟩, ⟨[t_loupelaw23_SaveIn]⟩⟩, none, false⟩,
   ⟨some 19, .unOp .not t_bool (.tmp 18), none, false⟩,
   ⟨some 20, .move (.tmp 19), none, false⟩,
   ⟨some 21, .fieldAddr t_loupelaw23_SaveIn (.tmp 1) 0, some (some 20, false), false⟩,
   ⟨some 22, .fieldAddr t_api_Disk (.tmp 21) 1, some (some 20, false), false⟩,
   ⟨some 23, .load t_L_api_Deed (.tmp 22), some (some 20, false), false⟩,
   ⟨some 24, .call ⟨.builtin .len, ⟨[(.tmp 23)]⟩, ⟨[t_L_api_Deed]⟩⟩, some (some 20, false), false⟩,
   ⟨some 25, .binOp .gtr t_int (.tmp 24) (.const (.int .i64 0)) t_int, some (some 20, false), false⟩,
   ⟨some 26, .pick (.tmp 20) (.const (.bool true)) (.tmp 25), none, false⟩]))
  (.cond (.tmp 26)
   (.seq (.reg [⟨some 27, .call ⟨.value (.func f_loupelaw23_alive), ⟨[]⟩, ⟨[]⟩⟩, none, false⟩,
    ⟨some 2, .assign (.tmp 27), none, false⟩])
   .ret)
   .skip))
  (.seq (.reg [⟨some 29, .fieldAddr t_loupelaw23_SaveIn (.tmp 1) 0, none, false⟩,
   ⟨some 30, .load t_api_Disk (.tmp 29), none, false⟩,
   ⟨some 31, .fieldAddr t_loupelaw23_SaveIn (.tmp 1) 1, none, false⟩,
   ⟨some 32, .load t_string (.tmp 31), none, false⟩,
   ⟨some 33, .call ⟨.value (.func f_file_See), ⟨[(.tmp 30), (.tmp 32)]⟩, ⟨[t_api_Disk, t_string]⟩⟩, none, false⟩,
   ⟨some 28, .move (.tmp 33), none, false⟩,
   ⟨some 34, .extract (.tmp 28) 0, none, false⟩,
   ⟨some 35, .extract (.tmp 28) 1, none, false⟩,
   ⟨some 3, .assign (.tmp 34), none, false⟩,
   ⟨some 4, .assign (.tmp 35), none, false⟩])
  (.seq (.reg [⟨some 37, .fieldAddr t_loupelaw23_SaveIn (.tmp 1) 0, none, false⟩,
   ⟨some 38, .load t_api_Disk (.tmp 37), none, false⟩,
   ⟨some 39, .fieldAddr t_loupelaw23_SaveIn (.tmp 1) 5, none, false⟩,
   ⟨some 40, .load t_string (.tmp 39), none, false⟩,
   ⟨some 41, .call ⟨.value (.func f_file_See), ⟨[(.tmp 38), (.tmp 40)]⟩, ⟨[t_api_Disk, t_string]⟩⟩, none, false⟩,
   ⟨some 36, .move (.tmp 41), none, false⟩,
   ⟨some 42, .extract (.tmp 36) 0, none, false⟩,
   ⟨some 43, .extract (.tmp 36) 1, none, false⟩,
   ⟨some 5, .assign (.tmp 42), none, false⟩,
   ⟨some 6, .assign (.tmp 43), none, false⟩])
  (.seq (.reg [⟨some 45, .fieldAddr t_loupelaw23_SaveIn (.tmp 1) 0, none, false⟩,
   ⟨some 46, .load t_api_Disk (.tmp 45), none, false⟩,
   ⟨some 47, .fieldAddr t_loupelaw23_SaveIn (.tmp 1) 1, none, false⟩,
   ⟨some 48, .load t_string (.tmp 47), none, false⟩,
   ⟨some 49, .fieldAddr t_loupelaw23_SaveIn (.tmp 1) 2, none, false⟩,
   ⟨some 50, .load t_string (.tmp 49), none, false⟩,
   ⟨some 51, .fieldAddr t_loupelaw23_SaveIn (.tmp 1) 3, none, false⟩,
   ⟨some 52, .load t_int (.tmp 51), none, false⟩,
   ⟨some 53, .call ⟨.value (.func f_file_Save), ⟨[(.tmp 46), (.tmp 48), (.tmp 50), (.tmp 52)]⟩, ⟨[t_api_Disk, t_string, t_string, t_int]⟩⟩, none, false⟩,
   ⟨some 44, .move (.tmp 53), none, false⟩,
   ⟨some 54, .extract (.tmp 44) 0, none, false⟩,
   ⟨some 55, .extract (.tmp 44) 1, none, false⟩,
   ⟨some 56, .extract (.tmp 44) 2, none, false⟩,
   ⟨some 7, .alloc t_api_Disk, none, false⟩,
   ⟨none, .store t_api_Disk (.tmp 7) (.tmp 54), none, false⟩,
   ⟨some 8, .assign (.tmp 55), none, false⟩,
   ⟨some 9, .assign (.tmp 56), none, false⟩])
  (.seq (.seq (.reg [⟨some 57, .move (.tmp 9), none, false⟩,
   ⟨some 58, .binOp .eql t_api_Errno (.tmp 57) (.const (.int .i64 4)) t_api_Errno, none, false⟩])
  (.cond (.tmp 58)
   (.seq (.reg [⟨some 59, .call ⟨.value (.func f_loupelaw23_alive), ⟨[]⟩, ⟨[]⟩⟩, none, false⟩,
    ⟨some 60, .move (.tmp 59), none, false⟩,
    ⟨some 61, .move (.tmp 8), some (some 60, true), false⟩,
    ⟨some 62, .binOp .eql t_int (.tmp 61) (.const (.int .i64 0)) t_int, some (some 60, true), false⟩,
    ⟨some 63, .pick (.tmp 60) (.tmp 62) (.const (.bool false)), none, false⟩,
    ⟨some 64, .move (.tmp 63), none, false⟩,
    ⟨some 65, .load t_api_Disk (.tmp 7), some (some 64, true), false⟩,
    ⟨some 66, .fieldAddr t_loupelaw23_SaveIn (.tmp 1) 0, some (some 64, true), false⟩,
    ⟨some 67, .load t_api_Disk (.tmp 66), some (some 64, true), false⟩,
    ⟨some 68, .call ⟨.value (.func f_louperef23_Same), ⟨[(.tmp 65), (.tmp 67)]⟩, ⟨[t_api_Disk, t_api_Disk]⟩⟩, some (some 64, true), false⟩,
    ⟨some 69, .pick (.tmp 64) (.tmp 68) (.const (.bool false)), none, false⟩,
    ⟨some 2, .assign (.tmp 69), none, false⟩])
   .ret)
   .skip))
  (.seq (.reg [⟨some 70, .load t_api_Disk (.tmp 7), none, false⟩,
   ⟨some 71, .fieldAddr t_loupelaw23_SaveIn (.tmp 1) 4, none, false⟩,
   ⟨some 72, .load t_int (.tmp 71), none, false⟩,
   ⟨some 73, .call ⟨.value (.func f_file_Crash), ⟨[(.tmp 70), (.tmp 72)]⟩, ⟨[t_api_Disk, t_int]⟩⟩, none, false⟩,
   ⟨some 10, .alloc t_api_Disk, none, false⟩,
   ⟨none, .store t_api_Disk (.tmp 10) (.tmp 73), none, false⟩])
  (.seq (.reg [⟨some 75, .load t_api_Disk (.tmp 10), none, false⟩,
   ⟨some 76, .fieldAddr t_loupelaw23_SaveIn (.tmp 1) 1, none, false⟩,
   ⟨some 77, .load t_string (.tmp 76), none, false⟩,
   ⟨some 78, .call ⟨.value (.func f_file_See), ⟨[(.tmp 75), (.tmp 77)]⟩, ⟨[t_api_Disk, t_string]⟩⟩, none, false⟩,
   ⟨some 74, .move (.tmp 78), none, false⟩,
   ⟨some 79, .extract (.tmp 74) 0, none, false⟩,
   ⟨some 80, .extract (.tmp 74) 1, none, false⟩,
   ⟨some 11, .assign (.tmp 79), none, false⟩,
   ⟨some 12, .assign (.tmp 80), none, false⟩])
  (.seq (.seq (.reg [⟨some 81, .load t_api_Disk (.tmp 7), none, false⟩,
   ⟨some 82, .call ⟨.value (.func f_louperef23_Right), ⟨[(.tmp 81)]⟩, ⟨[t_api_Disk]⟩⟩, none, false⟩,
   ⟨some 83, .unOp .not t_bool (.tmp 82), none, false⟩,
   ⟨some 84, .move (.tmp 83), none, false⟩,
   ⟨some 85, .load t_api_Disk (.tmp 10), some (some 84, false), false⟩,
   ⟨some 86, .call ⟨.value (.func f_louperef23_Right), ⟨[(.tmp 85)]⟩, ⟨[t_api_Disk]⟩⟩, some (some 84, false), false⟩,
   ⟨some 87, .unOp .not t_bool (.tmp 86), some (some 84, false), false⟩,
   ⟨some 88, .pick (.tmp 84) (.const (.bool true)) (.tmp 87), none, false⟩,
   ⟨some 89, .move (.tmp 88), none, false⟩,
   ⟨some 90, .fieldAddr t_api_Disk (.tmp 10) 1, some (some 89, false), false⟩,
   ⟨some 91, .load t_L_api_Deed (.tmp 90), some (some 89, false), false⟩,
   ⟨some 92, .call ⟨.builtin .len, ⟨[(.tmp 91)]⟩, ⟨[t_L_api_Deed]⟩⟩, some (some 89, false), false⟩,
   ⟨some 93, .binOp .neq t_int (.tmp 92) (.const (.int .i64 0)) t_int, some (some 89, false), false⟩,
   ⟨some 94, .pick (.tmp 89) (.const (.bool true)) (.tmp 93), none, false⟩])
  (.cond (.tmp 94)
   (.seq (.reg [⟨some 2, .assign (.const (.bool false)), none, false⟩])
   .ret)
   .skip))
  (.seq (.reg [⟨some 95, .move (.tmp 12), none, false⟩,
   ⟨some 96, .move (.tmp 4), none, false⟩,
   ⟨some 97, .binOp .eql t_bool (.tmp 95) (.tmp 96) t_bool, none, false⟩,
   ⟨some 98, .move (.tmp 97), none, false⟩,
   ⟨some 99, .move (.tmp 11), some (some 98, true), false⟩,
   ⟨some 100, .move (.tmp 3), some (some 98, true), false⟩,
   ⟨some 101, .binOp .eql t_string (.tmp 99) (.tmp 100) t_string, some (some 98, true), false⟩,
   ⟨some 102, .pick (.tmp 98) (.tmp 101) (.const (.bool false)), none, false⟩,
   ⟨some 13, .assign (.tmp 102), none, false⟩])
  (.seq (.reg [⟨some 103, .move (.tmp 12), none, false⟩,
   ⟨some 104, .move (.tmp 103), none, false⟩,
   ⟨some 105, .move (.tmp 11), some (some 104, true), false⟩,
   ⟨some 106, .fieldAddr t_loupelaw23_SaveIn (.tmp 1) 2, some (some 104, true), false⟩,
   ⟨some 107, .load t_string (.tmp 106), some (some 104, true), false⟩,
   ⟨some 108, .binOp .eql t_string (.tmp 105) (.tmp 107) t_string, some (some 104, true), false⟩,
   ⟨some 109, .pick (.tmp 104) (.tmp 108) (.const (.bool false)), none, false⟩,
   ⟨some 14, .assign (.tmp 109), none, false⟩])
  (.seq (.seq (.reg [⟨some 110, .move (.tmp 9), none, false⟩,
   ⟨some 111, .binOp .eql t_api_Errno (.tmp 110) (.const (.int .i64 0)) t_api_Errno, none, false⟩,
   ⟨some 112, .move (.tmp 111), none, false⟩,
   ⟨some 113, .move (.tmp 14), some (some 112, true), false⟩,
   ⟨some 114, .unOp .not t_bool (.tmp 113), some (some 112, true), false⟩,
   ⟨some 115, .pick (.tmp 112) (.tmp 114) (.const (.bool false)), none, false⟩,
   ⟨some 116, .move (.tmp 115), none, false⟩,
   ⟨some 117, .move (.tmp 13), some (some 116, false), false⟩,
   ⟨some 118, .unOp .not t_bool (.tmp 117), some (some 116, false), false⟩,
   ⟨some 119, .move (.tmp 118), some (some 116, false), false⟩,
   ⟨some 120, .move (.tmp 14), some (some 119, true), false⟩,
   ⟨some 121, .unOp .not t_bool (.tmp 120), some (some 119, true), false⟩,
   ⟨some 122, .pick (.tmp 119) (.tmp 121) (.const (.bool false)), some (some 116, false), false⟩,
   ⟨some 123, .pick (.tmp 116) (.const (.bool true)) (.tmp 122), none, false⟩,
   ⟨some 124, .move (.tmp 123), none, false⟩,
   ⟨some 125, .fieldAddr t_loupelaw23_SaveIn (.tmp 1) 3, some (some 124, false), false⟩,
   ⟨some 126, .load t_int (.tmp 125), some (some 124, false), false⟩,
   ⟨some 127, .binOp .geq t_int (.tmp 126) (.const (.int .i64 0)) t_int, some (some 124, false), false⟩,
   ⟨some 128, .move (.tmp 127), some (some 124, false), false⟩,
   ⟨some 129, .fieldAddr t_loupelaw23_SaveIn (.tmp 1) 3, some (some 128, true), false⟩,
   ⟨some 130, .load t_int (.tmp 129), some (some 128, true), false⟩,
   ⟨some 131, .move (.tmp 8), some (some 128, true), false⟩,
   ⟨some 132, .binOp .lss t_int (.tmp 130) (.tmp 131) t_int, some (some 128, true), false⟩,
   ⟨some 133, .pick (.tmp 128) (.tmp 132) (.const (.bool false)), some (some 124, false), false⟩,
   ⟨some 134, .pick (.tmp 124) (.const (.bool true)) (.tmp 133), none, false⟩])
  (.cond (.tmp 134)
   (.seq (.reg [⟨some 2, .assign (.const (.bool false)), none, false⟩])
   .ret)
   .skip))
  (.seq (.seq (.reg [⟨some 135, .fieldAddr t_loupelaw23_SaveIn (.tmp 1) 5, none, false⟩,
   ⟨some 136, .load t_string (.tmp 135), none, false⟩,
   ⟨some 137, .fieldAddr t_loupelaw23_SaveIn (.tmp 1) 1, none, false⟩,
   ⟨some 138, .load t_string (.tmp 137), none, false⟩,
   ⟨some 139, .binOp .eql t_string (.tmp 136) (.tmp 138) t_string, none, false⟩,
   ⟨some 140, .move (.tmp 139), none, false⟩,
   ⟨some 141, .fieldAddr t_loupelaw23_SaveIn (.tmp 1) 5, some (some 140, false), false⟩,
   ⟨some 142, .load t_string (.tmp 141), some (some 140, false), false⟩,
   ⟨some 143, .fieldAddr t_loupelaw23_SaveIn (.tmp 1) 1, some (some 140, false), false⟩,
   ⟨some 144, .load t_string (.tmp 143), some (some 140, false), false⟩,
   ⟨some 145, .binOp .add t_string (.tmp 144) (.const (.string ⟨⟨[46, 116, 109, 112]⟩⟩)) t_string, some (some 140, false), false⟩,
   ⟨some 146, .binOp .eql t_string (.tmp 142) (.tmp 145) t_string, some (some 140, false), false⟩,
   ⟨some 147, .pick (.tmp 140) (.const (.bool true)) (.tmp 146), none, false⟩])
  (.cond (.tmp 147)
   (.seq (.reg [⟨some 148, .call ⟨.value (.func f_loupelaw23_alive), ⟨[]⟩, ⟨[]⟩⟩, none, false⟩,
    ⟨some 2, .assign (.tmp 148), none, false⟩])
   .ret)
   .skip))
  (.seq (.reg [⟨some 150, .load t_api_Disk (.tmp 10), none, false⟩,
   ⟨some 151, .fieldAddr t_loupelaw23_SaveIn (.tmp 1) 5, none, false⟩,
   ⟨some 152, .load t_string (.tmp 151), none, false⟩,
   ⟨some 153, .call ⟨.value (.func f_file_See), ⟨[(.tmp 150), (.tmp 152)]⟩, ⟨[t_api_Disk, t_string]⟩⟩, none, false⟩,
   ⟨some 149, .move (.tmp 153), none, false⟩,
   ⟨some 154, .extract (.tmp 149) 0, none, false⟩,
   ⟨some 155, .extract (.tmp 149) 1, none, false⟩,
   ⟨some 15, .assign (.tmp 154), none, false⟩,
   ⟨some 16, .assign (.tmp 155), none, false⟩])
  (.seq (.reg [⟨some 156, .call ⟨.value (.func f_loupelaw23_alive), ⟨[]⟩, ⟨[]⟩⟩, none, false⟩,
   ⟨some 157, .move (.tmp 156), none, false⟩,
   ⟨some 158, .move (.tmp 15), some (some 157, true), false⟩,
   ⟨some 159, .move (.tmp 5), some (some 157, true), false⟩,
   ⟨some 160, .binOp .eql t_string (.tmp 158) (.tmp 159) t_string, some (some 157, true), false⟩,
   ⟨some 161, .pick (.tmp 157) (.tmp 160) (.const (.bool false)), none, false⟩,
   ⟨some 162, .move (.tmp 161), none, false⟩,
   ⟨some 163, .move (.tmp 16), some (some 162, true), false⟩,
   ⟨some 164, .move (.tmp 6), some (some 162, true), false⟩,
   ⟨some 165, .binOp .eql t_bool (.tmp 163) (.tmp 164) t_bool, some (some 162, true), false⟩,
   ⟨some 166, .pick (.tmp 162) (.tmp 165) (.const (.bool false)), none, false⟩,
   ⟨some 2, .assign (.tmp 166), none, false⟩])
  .ret)))))))))))))))
theorem k_loupelaw23_FileOneOr : FnOk Try.prog f_loupelaw23_FileOneOr 167 [.tmp 2] c_loupelaw23_FileOneOr := ⟨_, _, Try.func12, by kernel_rfl, rfl, Try.ntmps12, rfl, by kernel_rfl⟩

def c_loupelaw23_FileFlush : LC :=
  (.seq (.reg [⟨some 3, .box t_api_Disk (.tmp 0), none, false⟩,
   ⟨some 4, .box t__2_int (.tmp 1), none, false⟩,
   ⟨some 6, .assign (.const (.bool false)), none, false⟩])
  (.seq (.seq (.weak (.reg [⟨some 17, .load t_api_Disk (.tmp 3), none, false⟩,
   ⟨some 18, .call ⟨.value (.func f_louperef23_Few), ⟨[(.tmp 17)]⟩, ⟨[t_api_Disk]⟩⟩, none, false⟩,
   ⟨some 19, .unOp .not t_bool (.tmp 18), none, false⟩,
   ⟨some 20, .move (.tmp 19), none, false⟩,
   ⟨some 21, .move (.tmp 2), some (some 20, false), false⟩,
   ⟨some 22, .call ⟨.builtin .len, ⟨[(.tmp 21)]⟩, ⟨[t_string]⟩⟩, some (some 20, false), false⟩,
   ⟨some 23, .binOp .gtr t_int (.tmp 22) (.const (.int .i64 100)) t_int, some (some 20, false), false⟩,
   ⟨some 24, .pick (.tmp 20) (.const (.bool true)) (.tmp 23), none, false⟩]))
  (.cond (.tmp 24)
   (.seq (.reg [⟨some 25, .call ⟨.value (.func f_loupelaw23_alive), ⟨[]⟩, ⟨[]⟩⟩, none, false⟩,
    ⟨some 6, .assign (.tmp 25), none, false⟩])
   .ret)
   .skip))
  (.seq (.reg [⟨some 27, .load t_api_Disk (.tmp 3), none, false⟩,
   ⟨some 28, .move (.tmp 2), none, false⟩,
   ⟨some 29, .call ⟨.value (.func f_file_See), ⟨[(.tmp 27), (.tmp 28)]⟩, ⟨[t_api_Disk, t_string]⟩⟩, none, false⟩,
   ⟨some 26, .move (.tmp 29), none, false⟩,
   ⟨some 30, .extract (.tmp 26) 0, none, false⟩,
   ⟨some 31, .extract (.tmp 26) 1, none, false⟩,
   ⟨some 7, .assign (.tmp 30), none, false⟩,
   ⟨some 8, .assign (.tmp 31), none, false⟩])
  (.seq (.reg [⟨some 33, .load t_api_Disk (.tmp 3), none, false⟩,
   ⟨some 34, .build t_api_Deed ⟨[(0, (.const (.int .i64 4)))]⟩, none, false⟩,
   ⟨some 35, .call ⟨.value (.func f_file_Do), ⟨[(.tmp 33), (.tmp 34)]⟩, ⟨[t_api_Disk, t_api_Deed]⟩⟩, none, false⟩,
   ⟨some 32, .move (.tmp 35), none, false⟩,
   ⟨some 36, .extract (.tmp 32) 0, none, false⟩,
   ⟨some 37, .extract (.tmp 32) 1, none, false⟩,
   ⟨some 9, .alloc t_api_Disk, none, false⟩,
   ⟨none, .store t_api_Disk (.tmp 9) (.tmp 36), none, false⟩,
   ⟨some 10, .assign (.tmp 37), none, false⟩])
  (.seq (.reg [⟨some 39, .load t_api_Disk (.tmp 9), none, false⟩,
   ⟨some 40, .move (.tmp 2), none, false⟩,
   ⟨some 41, .call ⟨.value (.func f_file_See), ⟨[(.tmp 39), (.tmp 40)]⟩, ⟨[t_api_Disk, t_string]⟩⟩, none, false⟩,
   ⟨some 38, .move (.tmp 41), none, false⟩,
   ⟨some 42, .extract (.tmp 38) 0, none, false⟩,
   ⟨some 43, .extract (.tmp 38) 1, none, false⟩,
   ⟨some 11, .assign (.tmp 42), none, false⟩,
   ⟨some 12, .assign (.tmp 43), none, false⟩])
  (.seq (.reg [⟨some 45, .load t_api_Disk (.tmp 3), none, false⟩,
   ⟨some 46, .fieldAddr t_api_Disk (.tmp 3) 1, none, false⟩,
   ⟨some 47, .load t_L_api_Deed (.tmp 46), none, false⟩,
   ⟨some 48, .call ⟨.builtin .len, ⟨[(.tmp 47)]⟩, ⟨[t_L_api_Deed]⟩⟩, none, false⟩,
   ⟨some 49, .call ⟨.value (.func f_file_Crash), ⟨[(.tmp 45), (.tmp 48)]⟩, ⟨[t_api_Disk, t_int]⟩⟩, none, false⟩,
   ⟨some 50, .move (.tmp 2), none, false⟩,
   ⟨some 51, .call ⟨.value (.func f_file_See), ⟨[(.tmp 49), (.tmp 50)]⟩, ⟨[t_api_Disk, t_string]⟩⟩, none, false⟩,
   ⟨some 44, .move (.tmp 51), none, false⟩,
   ⟨some 52, .extract (.tmp 44) 0, none, false⟩,
   ⟨some 53, .extract (.tmp 44) 1, none, false⟩,
   ⟨some 13, .assign (.tmp 52), none, false⟩,
   ⟨some 14, .assign (.tmp 53), none, false⟩])
  (.seq (.reg [⟨some 54, .load t_api_Disk (.tmp 9), none, false⟩,
   ⟨some 55, .indexAddr t__2_int (.tmp 4) (.const (.int .i64 0)), none, false⟩,
   ⟨some 56, .load t_int (.tmp 55), none, false⟩,
   ⟨some 57, .call ⟨.value (.func f_file_Crash), ⟨[(.tmp 54), (.tmp 56)]⟩, ⟨[t_api_Disk, t_int]⟩⟩, none, false⟩,
   ⟨some 15, .alloc t_api_Disk, none, false⟩,
   ⟨none, .store t_api_Disk (.tmp 15) (.tmp 57), none, false⟩])
  (.seq (.seq (.reg [⟨some 58, .move (.tmp 10), none, false⟩,
   ⟨some 59, .binOp .neq t_api_Errno (.tmp 58) (.const (.int .i64 0)) t_api_Errno, none, false⟩,
   ⟨some 60, .move (.tmp 59), none, false⟩,
   ⟨some 61, .move (.tmp 7), some (some 60, false), false⟩,
   ⟨some 62, .move (.tmp 11), some (some 60, false), false⟩,
   ⟨some 63, .binOp .neq t_string (.tmp 61) (.tmp 62) t_string, some (some 60, false), false⟩,
   ⟨some 64, .pick (.tmp 60) (.const (.bool true)) (.tmp 63), none, false⟩,
   ⟨some 65, .move (.tmp 64), none, false⟩,
   ⟨some 66, .move (.tmp 8), some (some 65, false), false⟩,
   ⟨some 67, .move (.tmp 12), some (some 65, false), false⟩,
   ⟨some 68, .binOp .neq t_bool (.tmp 66) (.tmp 67) t_bool, some (some 65, false), false⟩,
   ⟨some 69, .pick (.tmp 65) (.const (.bool true)) (.tmp 68), none, false⟩,
   ⟨some 70, .move (.tmp 69), none, false⟩,
   ⟨some 71, .move (.tmp 7), some (some 70, false), false⟩,
   ⟨some 72, .move (.tmp 13), some (some 70, false), false⟩,
   ⟨some 73, .binOp .neq t_string (.tmp 71) (.tmp 72) t_string, some (some 70, false), false⟩,
   ⟨some 74, .pick (.tmp 70) (.const (.bool true)) (.tmp 73), none, false⟩,
   ⟨some 75, .move (.tmp 74), none, false⟩,
   ⟨some 76, .move (.tmp 8), some (some 75, false), false⟩,
   ⟨some 77, .move (.tmp 14), some (some 75, false), false⟩,
   ⟨some 78, .binOp .neq t_bool (.tmp 76) (.tmp 77) t_bool, some (some 75, false), false⟩,
   ⟨some 79, .pick (.tmp 75) (.const (.bool true)) (.tmp 78), none, false⟩,
   ⟨some 80, .move (.tmp 79), none, false⟩,
   ⟨some 81, .fieldAddr t_api_Disk (.tmp 9) 1, some (some 80, false), false⟩,
   ⟨some 82, .load t_L_api_Deed (.tmp 81), some (some 80, false), false⟩,
   ⟨some 83, .call ⟨.builtin .len, ⟨[(.tmp 82)]⟩, ⟨[t_L_api_Deed]⟩⟩, some (some 80, false), false⟩,
   ⟨some 84, .binOp .neq t_int (.tmp 83) (.const (.int .i64 0)) t_int, some (some 80, false), false⟩,
   ⟨some 85, .pick (.tmp 80) (.const (.bool true)) (.tmp 84), none, false⟩,
   ⟨some 86, .move (.tmp 85), none, false⟩,
   ⟨some 87, .load t_api_Disk (.tmp 15), some (some 86, false), false⟩,
   ⟨some 88, .load t_api_Disk (.tmp 9), some (some 86, false), false⟩,
   ⟨some 89, .call ⟨.value (.func f_louperef23_Same), ⟨[(.tmp 87), (.tmp 88)]⟩, ⟨[t_api_Disk, t_api_Disk]⟩⟩, some (some 86, false), false⟩,
   ⟨some 90, .unOp .not t_bool (.tmp 89), some (some 86, false), false⟩,
   ⟨some 91, .pick (.tmp 86) (.const (.bool true)) (.tmp 90), none, false⟩])
  (.cond (.tmp 91)
   (.seq (.reg [⟨some 6, .assign (.const (.bool false)), none, false⟩])
   .ret)
   .skip))
  (.seq (.reg [⟨some 92, .load t_api_Disk (.tmp 3), none, false⟩,
   ⟨some 93, .indexAddr t__2_int (.tmp 4) (.const (.int .i64 0)), none, false⟩,
   ⟨some 94, .load t_int (.tmp 93), none, false⟩,
   ⟨some 95, .call ⟨.value (.func f_file_Crash), ⟨[(.tmp 92), (.tmp 94)]⟩, ⟨[t_api_Disk, t_int]⟩⟩, none, false⟩,
   ⟨some 16, .alloc t_api_Disk, none, false⟩,
   ⟨none, .store t_api_Disk (.tmp 16) (.tmp 95), none, false⟩])
  (.seq (.draw [⟨some 96, .call ⟨.value (.func f_loupelaw23_alive), ⟨[]⟩, ⟨[]⟩⟩, none, false⟩,
   ⟨some 97, .move (.tmp 96), none, false⟩,
   ⟨some 98, .load t_api_Disk (.tmp 16), some (some 97, true), false⟩,
   ⟨some 99, .call ⟨.value (.func f_louperef23_Right), ⟨[(.tmp 98)]⟩, ⟨[t_api_Disk]⟩⟩, some (some 97, true), false⟩,
   ⟨some 100, .pick (.tmp 97) (.tmp 99) (.const (.bool false)), none, false⟩,
   ⟨some 101, .move (.tmp 100), none, false⟩,
   ⟨some 102, .load t_api_Disk (.tmp 16), some (some 101, true), false⟩,
   ⟨some 103, .indexAddr t__2_int (.tmp 4) (.const (.int .i64 1)), some (some 101, true), false⟩,
   ⟨some 104, .load t_int (.tmp 103), some (some 101, true), false⟩,
   ⟨some 105, .call ⟨.value (.func f_file_Crash), ⟨[(.tmp 102), (.tmp 104)]⟩, ⟨[t_api_Disk, t_int]⟩⟩, some (some 101, true), false⟩,
   ⟨some 106, .load t_api_Disk (.tmp 16), some (some 101, true), false⟩,
   ⟨some 107, .call ⟨.value (.func f_louperef23_Same), ⟨[(.tmp 105), (.tmp 106)]⟩, ⟨[t_api_Disk, t_api_Disk]⟩⟩, some (some 101, true), false⟩,
   ⟨some 108, .pick (.tmp 101) (.tmp 107) (.const (.bool false)), none, false⟩,
   ⟨some 109, .move (.tmp 108), none, false⟩,
   ⟨some 110, .indexAddr t__2_int (.tmp 4) (.const (.int .i64 0)), some (some 109, true), false⟩,
   ⟨some 111, .load t_int (.tmp 110), some (some 109, true), false⟩,
   ⟨some 112, .binOp .gtr t_int (.tmp 111) (.const (.int .i64 0)) t_int, some (some 109, true), false⟩,
   ⟨some 113, .move (.tmp 112), some (some 109, true), false⟩,
   ⟨some 114, .fieldAddr t_api_Disk (.tmp 16) 0, some (some 113, false), false⟩,
   ⟨some 115, .load t_L_api_File (.tmp 114), some (some 113, false), false⟩,
   ⟨some 116, .call ⟨.builtin .len, ⟨[(.tmp 115)]⟩, ⟨[t_L_api_File]⟩⟩, some (some 113, false), false⟩,
   ⟨some 117, .fieldAddr t_api_Disk (.tmp 3) 0, some (some 113, false), false⟩,
   ⟨some 118, .load t_L_api_File (.tmp 117), some (some 113, false), false⟩,
   ⟨some 119, .call ⟨.builtin .len, ⟨[(.tmp 118)]⟩, ⟨[t_L_api_File]⟩⟩, some (some 113, false), false⟩,
   ⟨some 120, .binOp .eql t_int (.tmp 116) (.tmp 119) t_int, some (some 113, false), false⟩,
   ⟨some 121, .pick (.tmp 113) (.const (.bool true)) (.tmp 120), some (some 109, true), false⟩,
   ⟨some 122, .pick (.tmp 109) (.tmp 121) (.const (.bool false)), none, false⟩,
   ⟨some 6, .assign (.tmp 122), none, false⟩]
  [0, 0, 0, 0, 0, 0, 0, 64, 64, 0, 960, 0, 0, 0, 0, 0, 0, 0, 0, 0, 0, 1835008, 1835008, 1835008, 0, 0, 0, 0])
  .ret))))))))))
theorem k_loupelaw23_FileFlush : FnOk Try.prog f_loupelaw23_FileFlush 123 [.tmp 6] c_loupelaw23_FileFlush := ⟨_, _, Try.func13, by kernel_rfl, rfl, Try.ntmps13, rfl, by kernel_rfl⟩

def c_loupelaw23_FileDeeds : LC :=
  (.seq (.reg [⟨some 2, .box t_api_Disk (.tmp 0), none, false⟩,
   ⟨some 3, .box t_api_Deed (.tmp 1), none, false⟩,
   ⟨some 4, .assign (.const (.bool false)), none, false⟩])
  (.seq (.seq (.weak (.reg [⟨some 13, .load t_api_Disk (.tmp 2), none, false⟩,
   ⟨some 14, .call ⟨.value (.func f_louperef23_Few), ⟨[(.tmp 13)]⟩, ⟨[t_api_Disk]⟩⟩, none, false⟩,
   ⟨some 15, .unOp .not t_bool (.tmp 14), none, false⟩,
   ⟨some 16, .move (.tmp 15), none, false⟩,
   ⟨some 17, .fieldAddr t_api_Deed (.tmp 3) 1, some (some 16, false), false⟩,
   ⟨some 18, .load t_string (.tmp 17), some (some 16, false), false⟩,
   ⟨some 19, .call ⟨.builtin .len, ⟨[(.tmp 18)]⟩, ⟨[t_string]⟩⟩, some (some 16, false), false⟩,
   ⟨some 20, .binOp .gtr t_int (.tmp 19) (.const (.int .i64 100)) t_int, some (some 16, false), false⟩,
   ⟨some 21, .pick (.tmp 16) (.const (.bool true)) (.tmp 20), none, false⟩,
   ⟨some 22, .move (.tmp 21), none, false⟩,
   ⟨some 23, .fieldAddr t_api_Deed (.tmp 3) 2, some (some 22, false), false⟩,
   ⟨some 24, .load t_string (.tmp 23), some (some 22, false), false⟩,
   ⟨some 25, .call ⟨.builtin .len, ⟨[(.tmp 24)]⟩, ⟨[t_string]⟩⟩, some (some 22, false), false⟩,
   ⟨some 26, .binOp .gtr t_int (.tmp 25) (.const (.int .i64 2000)) t_int, some (some 22, false), false⟩,
   ⟨some 27, .pick (.tmp 22) (.const (.bool true)) (.tmp 26), none, false⟩]))
  (.cond (.tmp 27)
   (.seq (.reg [⟨some 28, .call ⟨.value (.func f_loupelaw23_alive), ⟨[]⟩, ⟨[]⟩⟩, none, false⟩,
    ⟨some 4, .assign (.tmp 28), none, false⟩])
   .ret)
   .skip))
  (.seq (.reg [⟨some 30, .load t_api_Disk (.tmp 2), none, false⟩,
   ⟨some 31, .fieldAddr t_api_Deed (.tmp 3) 1, none, false⟩,
   ⟨some 32, .load t_string (.tmp 31), none, false⟩,
   ⟨some 33, .call ⟨.value (.func f_file_See), ⟨[(.tmp 30), (.tmp 32)]⟩, ⟨[t_api_Disk, t_string]⟩⟩, none, false⟩,
   ⟨some 29, .move (.tmp 33), none, false⟩,
   ⟨some 34, .extract (.tmp 29) 0, none, false⟩,
   ⟨some 35, .extract (.tmp 29) 1, none, false⟩,
   ⟨some 5, .assign (.tmp 34), none, false⟩,
   ⟨some 6, .assign (.tmp 35), none, false⟩])
  (.seq (.reg [⟨some 37, .load t_api_Disk (.tmp 2), none, false⟩,
   ⟨some 38, .load t_api_Deed (.tmp 3), none, false⟩,
   ⟨some 39, .call ⟨.value (.func f_file_Do), ⟨[(.tmp 37), (.tmp 38)]⟩, ⟨[t_api_Disk, t_api_Deed]⟩⟩, none, false⟩,
   ⟨some 36, .move (.tmp 39), none, false⟩,
   ⟨some 40, .extract (.tmp 36) 0, none, false⟩,
   ⟨some 41, .extract (.tmp 36) 1, none, false⟩,
   ⟨some 7, .alloc t_api_Disk, none, false⟩,
   ⟨none, .store t_api_Disk (.tmp 7) (.tmp 40), none, false⟩,
   ⟨some 8, .assign (.tmp 41), none, false⟩])
  (.seq (.seq (.reg [⟨some 42, .move (.tmp 8), none, false⟩,
   ⟨some 43, .binOp .neq t_api_Errno (.tmp 42) (.const (.int .i64 0)) t_api_Errno, none, false⟩])
  (.cond (.tmp 43)
   (.seq (.reg [⟨some 44, .call ⟨.value (.func f_loupelaw23_alive), ⟨[]⟩, ⟨[]⟩⟩, none, false⟩,
    ⟨some 45, .move (.tmp 44), none, false⟩,
    ⟨some 46, .move (.tmp 8), some (some 45, true), false⟩,
    ⟨some 47, .binOp .eql t_api_Errno (.tmp 46) (.const (.int .i64 4)) t_api_Errno, some (some 45, true), false⟩,
    ⟨some 48, .move (.tmp 47), some (some 45, true), false⟩,
    ⟨some 49, .move (.tmp 8), some (some 48, false), false⟩,
    ⟨some 50, .binOp .eql t_api_Errno (.tmp 49) (.const (.int .i64 6)) t_api_Errno, some (some 48, false), false⟩,
    ⟨some 51, .move (.tmp 50), some (some 48, false), false⟩,
    ⟨some 52, .move (.tmp 6), some (some 51, true), false⟩,
    ⟨some 53, .unOp .not t_bool (.tmp 52), some (some 51, true), false⟩,
    ⟨some 54, .pick (.tmp 51) (.tmp 53) (.const (.bool false)), some (some 48, false), false⟩,
    ⟨some 55, .pick (.tmp 48) (.const (.bool true)) (.tmp 54), some (some 45, true), false⟩,
    ⟨some 56, .pick (.tmp 45) (.tmp 55) (.const (.bool false)), none, false⟩,
    ⟨some 57, .move (.tmp 56), none, false⟩,
    ⟨some 58, .load t_api_Disk (.tmp 7), some (some 57, true), false⟩,
    ⟨some 59, .load t_api_Disk (.tmp 2), some (some 57, true), false⟩,
    ⟨some 60, .call ⟨.value (.func f_louperef23_Same), ⟨[(.tmp 58), (.tmp 59)]⟩, ⟨[t_api_Disk, t_api_Disk]⟩⟩, some (some 57, true), false⟩,
    ⟨some 61, .pick (.tmp 57) (.tmp 60) (.const (.bool false)), none, false⟩,
    ⟨some 4, .assign (.tmp 61), none, false⟩])
   .ret)
   .skip))
  (.seq (.reg [⟨some 63, .load t_api_Disk (.tmp 7), none, false⟩,
   ⟨some 64, .fieldAddr t_api_Deed (.tmp 3) 1, none, false⟩,
   ⟨some 65, .load t_string (.tmp 64), none, false⟩,
   ⟨some 66, .call ⟨.value (.func f_file_See), ⟨[(.tmp 63), (.tmp 65)]⟩, ⟨[t_api_Disk, t_string]⟩⟩, none, false⟩,
   ⟨some 62, .move (.tmp 66), none, false⟩,
   ⟨some 67, .extract (.tmp 62) 0, none, false⟩,
   ⟨some 68, .extract (.tmp 62) 1, none, false⟩,
   ⟨some 9, .assign (.tmp 67), none, false⟩,
   ⟨some 10, .assign (.tmp 68), none, false⟩])
  (.seq (.reg [⟨some 70, .load t_api_Disk (.tmp 7), none, false⟩,
   ⟨some 71, .fieldAddr t_api_Deed (.tmp 3) 2, none, false⟩,
   ⟨some 72, .load t_string (.tmp 71), none, false⟩,
   ⟨some 73, .call ⟨.value (.func f_file_See), ⟨[(.tmp 70), (.tmp 72)]⟩, ⟨[t_api_Disk, t_string]⟩⟩, none, false⟩,
   ⟨some 69, .move (.tmp 73), none, false⟩,
   ⟨some 74, .extract (.tmp 69) 0, none, false⟩,
   ⟨some 75, .extract (.tmp 69) 1, none, false⟩,
   ⟨some 11, .assign (.tmp 74), none, false⟩,
   ⟨some 12, .assign (.tmp 75), none, false⟩])
  (.seq (.seq (.reg [⟨some 76, .fieldAddr t_api_Deed (.tmp 3) 0, none, false⟩,
   ⟨some 77, .load t_int (.tmp 76), none, false⟩])
  (.block 0 (.seq (.reg [⟨some 79, .binOp .eql t_int (.tmp 77) (.const (.int .i64 0)) t_int, none, false⟩,
    ⟨some 78, .assign (.tmp 79), none, false⟩])
   (.cond (.tmp 78)
    (.seq (.reg [⟨some 80, .call ⟨.value (.func f_loupelaw23_alive), ⟨[]⟩, ⟨[]⟩⟩, none, false⟩,
     ⟨some 81, .move (.tmp 80), none, false⟩,
     ⟨some 82, .move (.tmp 10), some (some 81, true), false⟩,
     ⟨some 83, .pick (.tmp 81) (.tmp 82) (.const (.bool false)), none, false⟩,
     ⟨some 84, .move (.tmp 83), none, false⟩,
     ⟨some 85, .move (.tmp 9), some (some 84, true), false⟩,
     ⟨some 86, .binOp .eql t_string (.tmp 85) (.const (.string ⟨⟨[]⟩⟩)) t_string, some (some 84, true), false⟩,
     ⟨some 87, .pick (.tmp 84) (.tmp 86) (.const (.bool false)), none, false⟩,
     ⟨some 4, .assign (.tmp 87), none, false⟩])
    .ret)
    (.seq (.reg [⟨some 89, .binOp .eql t_int (.tmp 77) (.const (.int .i64 1)) t_int, none, false⟩,
     ⟨some 88, .assign (.tmp 89), none, false⟩])
    (.cond (.tmp 88)
     (.seq (.reg [⟨some 90, .call ⟨.value (.func f_loupelaw23_alive), ⟨[]⟩, ⟨[]⟩⟩, none, false⟩,
      ⟨some 91, .move (.tmp 90), none, false⟩,
      ⟨some 92, .move (.tmp 6), some (some 91, true), false⟩,
      ⟨some 93, .pick (.tmp 91) (.tmp 92) (.const (.bool false)), none, false⟩,
      ⟨some 94, .move (.tmp 93), none, false⟩,
      ⟨some 95, .move (.tmp 10), some (some 94, true), false⟩,
      ⟨some 96, .pick (.tmp 94) (.tmp 95) (.const (.bool false)), none, false⟩,
      ⟨some 97, .move (.tmp 96), none, false⟩,
      ⟨some 98, .move (.tmp 9), some (some 97, true), false⟩,
      ⟨some 99, .move (.tmp 5), some (some 97, true), false⟩,
      ⟨some 100, .fieldAddr t_api_Deed (.tmp 3) 2, some (some 97, true), false⟩,
      ⟨some 101, .load t_string (.tmp 100), some (some 97, true), false⟩,
      ⟨some 102, .binOp .add t_string (.tmp 99) (.tmp 101) t_string, some (some 97, true), false⟩,
      ⟨some 103, .binOp .eql t_string (.tmp 98) (.tmp 102) t_string, some (some 97, true), false⟩,
      ⟨some 104, .pick (.tmp 97) (.tmp 103) (.const (.bool false)), none, false⟩,
      ⟨some 4, .assign (.tmp 104), none, false⟩])
     .ret)
     (.seq (.reg [⟨some 106, .binOp .eql t_int (.tmp 77) (.const (.int .i64 2)) t_int, none, false⟩,
      ⟨some 105, .assign (.tmp 106), none, false⟩])
     (.cond (.tmp 105)
      (.seq (.reg [⟨some 107, .call ⟨.value (.func f_loupelaw23_alive), ⟨[]⟩, ⟨[]⟩⟩, none, false⟩,
       ⟨some 108, .move (.tmp 107), none, false⟩,
       ⟨some 109, .move (.tmp 6), some (some 108, true), false⟩,
       ⟨some 110, .pick (.tmp 108) (.tmp 109) (.const (.bool false)), none, false⟩,
       ⟨some 111, .move (.tmp 110), none, false⟩,
       ⟨some 112, .move (.tmp 12), some (some 111, true), false⟩,
       ⟨some 113, .pick (.tmp 111) (.tmp 112) (.const (.bool false)), none, false⟩,
       ⟨some 114, .move (.tmp 113), none, false⟩,
       ⟨some 115, .move (.tmp 11), some (some 114, true), false⟩,
       ⟨some 116, .move (.tmp 5), some (some 114, true), false⟩,
       ⟨some 117, .binOp .eql t_string (.tmp 115) (.tmp 116) t_string, some (some 114, true), false⟩,
       ⟨some 118, .pick (.tmp 114) (.tmp 117) (.const (.bool false)), none, false⟩,
       ⟨some 119, .move (.tmp 118), none, false⟩,
       ⟨some 120, .move (.tmp 10), some (some 119, true), false⟩,
       ⟨some 121, .fieldAddr t_api_Deed (.tmp 3) 2, some (some 119, true), false⟩,
       ⟨some 122, .load t_string (.tmp 121), some (some 119, true), false⟩,
       ⟨some 123, .fieldAddr t_api_Deed (.tmp 3) 1, some (some 119, true), false⟩,
       ⟨some 124, .load t_string (.tmp 123), some (some 119, true), false⟩,
       ⟨some 125, .binOp .eql t_string (.tmp 122) (.tmp 124) t_string, some (some 119, true), false⟩,
       ⟨some 126, .binOp .eql t_bool (.tmp 120) (.tmp 125) t_bool, some (some 119, true), false⟩,
       ⟨some 127, .pick (.tmp 119) (.tmp 126) (.const (.bool false)), none, false⟩,
       ⟨some 4, .assign (.tmp 127), none, false⟩])
      .ret)
      (.seq (.reg [⟨some 129, .binOp .eql t_int (.tmp 77) (.const (.int .i64 3)) t_int, none, false⟩,
       ⟨some 128, .assign (.tmp 129), none, false⟩])
      (.cond (.tmp 128)
       (.seq (.reg [⟨some 130, .call ⟨.value (.func f_loupelaw23_alive), ⟨[]⟩, ⟨[]⟩⟩, none, false⟩,
        ⟨some 131, .move (.tmp 130), none, false⟩,
        ⟨some 132, .move (.tmp 6), some (some 131, true), false⟩,
        ⟨some 133, .pick (.tmp 131) (.tmp 132) (.const (.bool false)), none, false⟩,
        ⟨some 134, .move (.tmp 133), none, false⟩,
        ⟨some 135, .move (.tmp 10), some (some 134, true), false⟩,
        ⟨some 136, .unOp .not t_bool (.tmp 135), some (some 134, true), false⟩,
        ⟨some 137, .pick (.tmp 134) (.tmp 136) (.const (.bool false)), none, false⟩,
        ⟨some 4, .assign (.tmp 137), none, false⟩])
       .ret)
       .skip))))))))))
  (.seq (.reg [⟨some 138, .call ⟨.value (.func f_loupelaw23_alive), ⟨[]⟩, ⟨[]⟩⟩, none, false⟩,
   ⟨some 139, .move (.tmp 138), none, false⟩,
   ⟨some 140, .fieldAddr t_api_Deed (.tmp 3) 0, some (some 139, true), false⟩,
   ⟨some 141, .load t_int (.tmp 140), some (some 139, true), false⟩,
   ⟨some 142, .binOp .eql t_int (.tmp 141) (.const (.int .i64 4)) t_int, some (some 139, true), false⟩,
   ⟨some 143, .pick (.tmp 139) (.tmp 142) (.const (.bool false)), none, false⟩,
   ⟨some 144, .move (.tmp 143), none, false⟩,
   ⟨some 145, .load t_api_Disk (.tmp 7), some (some 144, true), false⟩,
   ⟨some 146, .call ⟨.value (.func f_louperef23_Right), ⟨[(.tmp 145)]⟩, ⟨[t_api_Disk]⟩⟩, some (some 144, true), false⟩,
   ⟨some 147, .pick (.tmp 144) (.tmp 146) (.const (.bool false)), none, false⟩,
   ⟨some 4, .assign (.tmp 147), none, false⟩])
  .ret)))))))))
theorem k_loupelaw23_FileDeeds : FnOk Try.prog f_loupelaw23_FileDeeds 148 [.tmp 4] c_loupelaw23_FileDeeds := ⟨_, _, Try.func14, by kernel_rfl, rfl, Try.ntmps14, rfl, by kernel_rfl⟩

def c_loupelaw23_FileTwice : LC :=
  (.seq (.reg [⟨some 2, .box t_loupelaw23_SaveIn (.tmp 0), none, false⟩,
   ⟨some 4, .assign (.const (.bool false)), none, false⟩])
  (.seq (.seq (.weak (.reg [⟨some 22, .load t_loupelaw23_SaveIn (.tmp 2), none, false⟩,
   ⟨some 23, .call ⟨.value (.func f__loupelaw23_SaveIn__given), ⟨[(.tmp 22)]⟩, ⟨[t_loupelaw23_SaveIn]⟩⟩, none, false⟩,
   ⟨some 24, .unOp .not t_bool (.tmp 23), none, false⟩,
   ⟨some 25, .move (.tmp 24), none, false⟩,
   ⟨some 26, .move (.tmp 1), some (some 25, false), false⟩,
   ⟨some 27, .call ⟨.builtin .len, ⟨[(.tmp 26)]⟩, ⟨[t_string]⟩⟩, some (some 25, false), false⟩,
   ⟨some 28, .binOp .gtr t_int (.tmp 27) (.const (.int .i64 2000)) t_int, some (some 25, false), false⟩,
   ⟨some 29, .pick (.tmp 25) (.const (.bool true)) (.tmp 28), none, false⟩]))
  (.cond (.tmp 29)
   (.seq (.reg [⟨some 30, .call ⟨.value (.func f_loupelaw23_alive), ⟨[]⟩, ⟨[]⟩⟩, none, false⟩,
    ⟨some 4, .assign (.tmp 30), none, false⟩])
   .ret)
   .skip))
  (.seq (.reg [⟨some 32, .fieldAddr t_loupelaw23_SaveIn (.tmp 2) 0, none, false⟩,
   ⟨some 33, .load t_api_Disk (.tmp 32), none, false⟩,
   ⟨some 34, .fieldAddr t_loupelaw23_SaveIn (.tmp 2) 1, none, false⟩,
   ⟨some 35, .load t_string (.tmp 34), none, false⟩,
   ⟨some 36, .fieldAddr t_loupelaw23_SaveIn (.tmp 2) 2, none, false⟩,
   ⟨some 37, .load t_string (.tmp 36), none, false⟩,
   ⟨some 38, .call ⟨.value (.func f_file_Save), ⟨[(.tmp 33), (.tmp 35), (.tmp 37), (.const (.int .i64 (-1)))]⟩, ⟨[t_api_Disk, t_string, t_string, t_int]⟩⟩, none, false⟩,
   ⟨some 31, .move (.tmp 38), none, false⟩,
   ⟨some 39, .extract (.tmp 31) 0, none, false⟩,
   ⟨some 40, .extract (.tmp 31) 1, none, false⟩,
   ⟨some 41, .extract (.tmp 31) 2, none, false⟩,
   ⟨some 5, .alloc t_api_Disk, none, false⟩,
   ⟨none, .store t_api_Disk (.tmp 5) (.tmp 39), none, false⟩,
   ⟨some 6, .assign (.tmp 40), none, false⟩,
   ⟨some 7, .assign (.tmp 41), none, false⟩])
  (.seq (.reg [⟨some 43, .load t_api_Disk (.tmp 5), none, false⟩,
   ⟨some 44, .fieldAddr t_loupelaw23_SaveIn (.tmp 2) 1, none, false⟩,
   ⟨some 45, .load t_string (.tmp 44), none, false⟩,
   ⟨some 46, .move (.tmp 1), none, false⟩,
   ⟨some 47, .call ⟨.value (.func f_file_Save), ⟨[(.tmp 43), (.tmp 45), (.tmp 46), (.const (.int .i64 (-1)))]⟩, ⟨[t_api_Disk, t_string, t_string, t_int]⟩⟩, none, false⟩,
   ⟨some 42, .move (.tmp 47), none, false⟩,
   ⟨some 48, .extract (.tmp 42) 0, none, false⟩,
   ⟨some 49, .extract (.tmp 42) 1, none, false⟩,
   ⟨some 50, .extract (.tmp 42) 2, none, false⟩,
   ⟨some 8, .alloc t_api_Disk, none, false⟩,
   ⟨none, .store t_api_Disk (.tmp 8) (.tmp 48), none, false⟩,
   ⟨some 9, .assign (.tmp 49), none, false⟩,
   ⟨some 10, .assign (.tmp 50), none, false⟩])
  (.seq (.seq (.reg [⟨some 51, .move (.tmp 7), none, false⟩,
   ⟨some 52, .move (.tmp 10), none, false⟩,
   ⟨some 53, .binOp .neq t_api_Errno (.tmp 51) (.tmp 52) t_api_Errno, none, false⟩])
  (.cond (.tmp 53)
   (.seq (.reg [⟨some 4, .assign (.const (.bool false)), none, false⟩])
   .ret)
   .skip))
  (.seq (.seq (.reg [⟨some 54, .move (.tmp 7), none, false⟩,
   ⟨some 55, .binOp .neq t_api_Errno (.tmp 54) (.const (.int .i64 0)) t_api_Errno, none, false⟩])
  (.cond (.tmp 55)
   (.seq (.reg [⟨some 56, .call ⟨.value (.func f_loupelaw23_alive), ⟨[]⟩, ⟨[]⟩⟩, none, false⟩,
    ⟨some 57, .move (.tmp 56), none, false⟩,
    ⟨some 58, .move (.tmp 7), some (some 57, true), false⟩,
    ⟨some 59, .binOp .eql t_api_Errno (.tmp 58) (.const (.int .i64 4)) t_api_Errno, some (some 57, true), false⟩,
    ⟨some 60, .pick (.tmp 57) (.tmp 59) (.const (.bool false)), none, false⟩,
    ⟨some 61, .move (.tmp 60), none, false⟩,
    ⟨some 62, .load t_api_Disk (.tmp 8), some (some 61, true), false⟩,
    ⟨some 63, .fieldAddr t_loupelaw23_SaveIn (.tmp 2) 0, some (some 61, true), false⟩,
    ⟨some 64, .load t_api_Disk (.tmp 63), some (some 61, true), false⟩,
    ⟨some 65, .call ⟨.value (.func f_louperef23_Same), ⟨[(.tmp 62), (.tmp 64)]⟩, ⟨[t_api_Disk, t_api_Disk]⟩⟩, some (some 61, true), false⟩,
    ⟨some 66, .pick (.tmp 61) (.tmp 65) (.const (.bool false)), none, false⟩,
    ⟨some 4, .assign (.tmp 66), none, false⟩])
   .ret)
   .skip))
  (.seq (.draw [⟨some 68, .load t_api_Disk (.tmp 8), none, false⟩,
   ⟨some 69, .fieldAddr t_loupelaw23_SaveIn (.tmp 2) 4, none, false⟩,
   ⟨some 70, .load t_int (.tmp 69), none, false⟩,
   ⟨some 71, .call ⟨.value (.func f_file_Crash), ⟨[(.tmp 68), (.tmp 70)]⟩, ⟨[t_api_Disk, t_int]⟩⟩, none, false⟩,
   ⟨some 72, .fieldAddr t_loupelaw23_SaveIn (.tmp 2) 1, none, false⟩,
   ⟨some 73, .load t_string (.tmp 72), none, false⟩,
   ⟨some 74, .call ⟨.value (.func f_file_See), ⟨[(.tmp 71), (.tmp 73)]⟩, ⟨[t_api_Disk, t_string]⟩⟩, none, false⟩,
   ⟨some 67, .move (.tmp 74), none, false⟩,
   ⟨some 75, .extract (.tmp 67) 0, none, false⟩,
   ⟨some 76, .extract (.tmp 67) 1, none, false⟩,
   ⟨some 11, .assign (.tmp 75), none, false⟩,
   ⟨some 12, .assign (.tmp 76), none, false⟩]
  [0, 1, 1, 0, 15, 15, 0, 0, 0, 256, 512, 0])
  (.seq (.seq (.reg [⟨some 77, .move (.tmp 12), none, false⟩,
   ⟨some 78, .unOp .not t_bool (.tmp 77), none, false⟩,
   ⟨some 79, .move (.tmp 78), none, false⟩,
   ⟨some 80, .move (.tmp 11), some (some 79, false), false⟩,
   ⟨some 81, .move (.tmp 1), some (some 79, false), false⟩,
   ⟨some 82, .binOp .neq t_string (.tmp 80) (.tmp 81) t_string, some (some 79, false), false⟩,
   ⟨some 83, .pick (.tmp 79) (.const (.bool true)) (.tmp 82), none, false⟩,
   ⟨some 84, .move (.tmp 83), none, false⟩,
   ⟨some 85, .fieldAddr t_api_Disk (.tmp 8) 1, some (some 84, false), false⟩,
   ⟨some 86, .load t_L_api_Deed (.tmp 85), some (some 84, false), false⟩,
   ⟨some 87, .call ⟨.builtin .len, ⟨[(.tmp 86)]⟩, ⟨[t_L_api_Deed]⟩⟩, some (some 84, false), false⟩,
   ⟨some 88, .binOp .neq t_int (.tmp 87) (.const (.int .i64 0)) t_int, some (some 84, false), false⟩,
   ⟨some 89, .pick (.tmp 84) (.const (.bool true)) (.tmp 88), none, false⟩])
  (.cond (.tmp 89)
   (.seq (.reg [⟨some 4, .assign (.const (.bool false)), none, false⟩])
   .ret)
   .skip))
  (.seq (.reg [⟨some 91, .load t_api_Disk (.tmp 8), none, false⟩,
   ⟨some 92, .fieldAddr t_loupelaw23_SaveIn (.tmp 2) 5, none, false⟩,
   ⟨some 93, .load t_string (.tmp 92), none, false⟩,
   ⟨some 94, .fieldAddr t_loupelaw23_SaveIn (.tmp 2) 2, none, false⟩,
   ⟨some 95, .load t_string (.tmp 94), none, false⟩,
   ⟨some 96, .call ⟨.value (.func f_file_Save), ⟨[(.tmp 91), (.tmp 93), (.tmp 95), (.const (.int .i64 (-1)))]⟩, ⟨[t_api_Disk, t_string, t_string, t_int]⟩⟩, none, false⟩,
   ⟨some 90, .move (.tmp 96), none, false⟩,
   ⟨some 97, .extract (.tmp 90) 0, none, false⟩,
   ⟨some 98, .extract (.tmp 90) 1, none, false⟩,
   ⟨some 99, .extract (.tmp 90) 2, none, false⟩,
   ⟨some 13, .alloc t_api_Disk, none, false⟩,
   ⟨none, .store t_api_Disk (.tmp 13) (.tmp 97), none, false⟩,
   ⟨some 14, .assign (.tmp 98), none, false⟩,
   ⟨some 15, .assign (.tmp 99), none, false⟩])
  (.seq (.seq (.reg [⟨some 100, .move (.tmp 15), none, false⟩,
   ⟨some 101, .binOp .neq t_api_Errno (.tmp 100) (.const (.int .i64 0)) t_api_Errno, none, false⟩,
   ⟨some 102, .move (.tmp 101), none, false⟩,
   ⟨some 103, .fieldAddr t_loupelaw23_SaveIn (.tmp 2) 5, some (some 102, false), false⟩,
   ⟨some 104, .load t_string (.tmp 103), some (some 102, false), false⟩,
   ⟨some 105, .fieldAddr t_loupelaw23_SaveIn (.tmp 2) 1, some (some 102, false), false⟩,
   ⟨some 106, .load t_string (.tmp 105), some (some 102, false), false⟩,
   ⟨some 107, .binOp .eql t_string (.tmp 104) (.tmp 106) t_string, some (some 102, false), false⟩,
   ⟨some 108, .pick (.tmp 102) (.const (.bool true)) (.tmp 107), none, false⟩,
   ⟨some 109, .move (.tmp 108), none, false⟩,
   ⟨some 110, .fieldAddr t_loupelaw23_SaveIn (.tmp 2) 5, some (some 109, false), false⟩,
   ⟨some 111, .load t_string (.tmp 110), some (some 109, false), false⟩,
   ⟨some 112, .binOp .add t_string (.tmp 111) (.const (.string ⟨⟨[46, 116, 109, 112]⟩⟩)) t_string, some (some 109, false), false⟩,
   ⟨some 113, .fieldAddr t_loupelaw23_SaveIn (.tmp 2) 1, some (some 109, false), false⟩,
   ⟨some 114, .load t_string (.tmp 113), some (some 109, false), false⟩,
   ⟨some 115, .binOp .eql t_string (.tmp 112) (.tmp 114) t_string, some (some 109, false), false⟩,
   ⟨some 116, .pick (.tmp 109) (.const (.bool true)) (.tmp 115), none, false⟩,
   ⟨some 117, .move (.tmp 116), none, false⟩,
   ⟨some 118, .fieldAddr t_loupelaw23_SaveIn (.tmp 2) 1, some (some 117, false), false⟩,
   ⟨some 119, .load t_string (.tmp 118), some (some 117, false), false⟩,
   ⟨some 120, .binOp .add t_string (.tmp 119) (.const (.string ⟨⟨[46, 116, 109, 112]⟩⟩)) t_string, some (some 117, false), false⟩,
   ⟨some 121, .fieldAddr t_loupelaw23_SaveIn (.tmp 2) 5, some (some 117, false), false⟩,
   ⟨some 122, .load t_string (.tmp 121), some (some 117, false), false⟩,
   ⟨some 123, .binOp .eql t_string (.tmp 120) (.tmp 122) t_string, some (some 117, false), false⟩,
   ⟨some 124, .pick (.tmp 117) (.const (.bool true)) (.tmp 123), none, false⟩])
  (.cond (.tmp 124)
   (.seq (.reg [⟨some 125, .call ⟨.value (.func f_loupelaw23_alive), ⟨[]⟩, ⟨[]⟩⟩, none, false⟩,
    ⟨some 126, .move (.tmp 125), none, false⟩,
    ⟨some 127, .move (.tmp 15), some (some 126, true), false⟩,
    ⟨some 128, .binOp .eql t_api_Errno (.tmp 127) (.const (.int .i64 0)) t_api_Errno, some (some 126, true), false⟩,
    ⟨some 129, .move (.tmp 128), some (some 126, true), false⟩,
    ⟨some 130, .move (.tmp 15), some (some 129, false), false⟩,
    ⟨some 131, .binOp .eql t_api_Errno (.tmp 130) (.const (.int .i64 4)) t_api_Errno, some (some 129, false), false⟩,
    ⟨some 132, .pick (.tmp 129) (.const (.bool true)) (.tmp 131), some (some 126, true), false⟩,
    ⟨some 133, .pick (.tmp 126) (.tmp 132) (.const (.bool false)), none, false⟩,
    ⟨some 4, .assign (.tmp 133), none, false⟩])
   .ret)
   .skip))
  (.seq (.reg [⟨some 135, .load t_api_Disk (.tmp 13), none, false⟩,
   ⟨some 136, .fieldAddr t_loupelaw23_SaveIn (.tmp 2) 1, none, false⟩,
   ⟨some 137, .load t_string (.tmp 136), none, false⟩,
   ⟨some 138, .call ⟨.value (.func f_file_See), ⟨[(.tmp 135), (.tmp 137)]⟩, ⟨[t_api_Disk, t_string]⟩⟩, none, false⟩,
   ⟨some 134, .move (.tmp 138), none, false⟩,
   ⟨some 139, .extract (.tmp 134) 0, none, false⟩,
   ⟨some 140, .extract (.tmp 134) 1, none, false⟩,
   ⟨some 16, .assign (.tmp 139), none, false⟩,
   ⟨some 17, .assign (.tmp 140), none, false⟩])
  (.seq (.reg [⟨some 142, .load t_api_Disk (.tmp 13), none, false⟩,
   ⟨some 143, .fieldAddr t_loupelaw23_SaveIn (.tmp 2) 5, none, false⟩,
   ⟨some 144, .load t_string (.tmp 143), none, false⟩,
   ⟨some 145, .call ⟨.value (.func f_file_See), ⟨[(.tmp 142), (.tmp 144)]⟩, ⟨[t_api_Disk, t_string]⟩⟩, none, false⟩,
   ⟨some 141, .move (.tmp 145), none, false⟩,
   ⟨some 146, .extract (.tmp 141) 0, none, false⟩,
   ⟨some 147, .extract (.tmp 141) 1, none, false⟩,
   ⟨some 18, .assign (.tmp 146), none, false⟩,
   ⟨some 19, .assign (.tmp 147), none, false⟩])
  (.seq (.reg [⟨some 149, .load t_api_Disk (.tmp 13), none, false⟩,
   ⟨some 150, .fieldAddr t_loupelaw23_SaveIn (.tmp 2) 5, none, false⟩,
   ⟨some 151, .load t_string (.tmp 150), none, false⟩,
   ⟨some 152, .binOp .add t_string (.tmp 151) (.const (.string ⟨⟨[46, 116, 109, 112]⟩⟩)) t_string, none, false⟩,
   ⟨some 153, .call ⟨.value (.func f_file_See), ⟨[(.tmp 149), (.tmp 152)]⟩, ⟨[t_api_Disk, t_string]⟩⟩, none, false⟩,
   ⟨some 148, .move (.tmp 153), none, false⟩,
   ⟨some 154, .extract (.tmp 148) 0, none, false⟩,
   ⟨some 155, .extract (.tmp 148) 1, none, false⟩,
   ⟨some 20, .assign (.tmp 154), none, false⟩,
   ⟨some 21, .assign (.tmp 155), none, false⟩])
  (.seq (.reg [⟨some 156, .call ⟨.value (.func f_loupelaw23_alive), ⟨[]⟩, ⟨[]⟩⟩, none, false⟩,
   ⟨some 157, .move (.tmp 156), none, false⟩,
   ⟨some 158, .move (.tmp 17), some (some 157, true), false⟩,
   ⟨some 159, .pick (.tmp 157) (.tmp 158) (.const (.bool false)), none, false⟩,
   ⟨some 160, .move (.tmp 159), none, false⟩,
   ⟨some 161, .move (.tmp 19), some (some 160, true), false⟩,
   ⟨some 162, .pick (.tmp 160) (.tmp 161) (.const (.bool false)), none, false⟩,
   ⟨some 163, .move (.tmp 162), none, false⟩,
   ⟨some 164, .move (.tmp 16), some (some 163, true), false⟩,
   ⟨some 165, .move (.tmp 1), some (some 163, true), false⟩,
   ⟨some 166, .binOp .eql t_string (.tmp 164) (.tmp 165) t_string, some (some 163, true), false⟩,
   ⟨some 167, .pick (.tmp 163) (.tmp 166) (.const (.bool false)), none, false⟩,
   ⟨some 168, .move (.tmp 167), none, false⟩,
   ⟨some 169, .move (.tmp 18), some (some 168, true), false⟩,
   ⟨some 170, .fieldAddr t_loupelaw23_SaveIn (.tmp 2) 2, some (some 168, true), false⟩,
   ⟨some 171, .load t_string (.tmp 170), some (some 168, true), false⟩,
   ⟨some 172, .binOp .eql t_string (.tmp 169) (.tmp 171) t_string, some (some 168, true), false⟩,
   ⟨some 173, .pick (.tmp 168) (.tmp 172) (.const (.bool false)), none, false⟩,
   ⟨some 174, .move (.tmp 173), none, false⟩,
   ⟨some 175, .move (.tmp 21), some (some 174, true), false⟩,
   ⟨some 176, .unOp .not t_bool (.tmp 175), some (some 174, true), false⟩,
   ⟨some 177, .pick (.tmp 174) (.tmp 176) (.const (.bool false)), none, false⟩,
   ⟨some 4, .assign (.tmp 177), none, false⟩])
  .ret))))))))))))))
theorem k_loupelaw23_FileTwice : FnOk Try.prog f_loupelaw23_FileTwice 178 [.tmp 4] c_loupelaw23_FileTwice := ⟨_, _, Try.func15, by kernel_rfl, rfl, Try.ntmps15, rfl, by kernel_rfl⟩

def c_louperef23_Small : LC :=
  (.seq (.reg [⟨some 1, .box t_api_Disk (.tmp 0), none, false⟩,
   ⟨some 2, .assign (.const (.bool false)), none, false⟩])
  (.seq (.seq (.weak (.reg [⟨some 5, .fieldAddr t_api_Disk (.tmp 1) 0, none, false⟩,
   ⟨some 6, .load t_L_api_File (.tmp 5), none, false⟩,
   ⟨some 7, .call ⟨.builtin .len, ⟨[(.tmp 6)]⟩, ⟨[t_L_api_File]⟩⟩, none, false⟩,
   ⟨some 8, .binOp .gtr t_int (.tmp 7) (.const (.int .i64 20)) t_int, none, false⟩,
   ⟨some 9, .move (.tmp 8), none, false⟩,
   ⟨some 10, .fieldAddr t_api_Disk (.tmp 1) 1, some (some 9, false), false⟩,
   ⟨some 11, .load t_L_api_Deed (.tmp 10), some (some 9, false), false⟩,
   ⟨some 12, .call ⟨.builtin .len, ⟨[(.tmp 11)]⟩, ⟨[t_L_api_Deed]⟩⟩, some (some 9, false), false⟩,
   ⟨some 13, .binOp .gtr t_int (.tmp 12) (.const (.int .i64 20)) t_int, some (some 9, false), false⟩,
   ⟨some 14, .pick (.tmp 9) (.const (.bool true)) (.tmp 13), none, false⟩]))
  (.cond (.tmp 14)
   (.seq (.reg [⟨some 2, .assign (.const (.bool false)), none, false⟩])
   .ret)
   .skip))
  (.seq (.seq (.reg [⟨some 3, .assign (.const (.int .i64 0)), none, false⟩])
  (.block 0 (.loop [false, true, false, true, false, false, false, false, false, false, false, false, false, false, false, false, false, false, false, false, false, false, false, false, false, false, false, false, false, false, false, false, false, false, false, false, false, false, false, false, false, false, false, false, false, false, false, false, false, false, false, false, false, false, false, false, false, false, false, false, false, false, false, false, false] none
   (.seq (.seq (.reg [⟨some 15, .move (.tmp 3), none, false⟩,
     ⟨some 16, .fieldAddr t_api_Disk (.tmp 1) 0, none, false⟩,
     ⟨some 17, .load t_L_api_File (.tmp 16), none, false⟩,
     ⟨some 18, .call ⟨.builtin .len, ⟨[(.tmp 17)]⟩, ⟨[t_L_api_File]⟩⟩, none, false⟩,
     ⟨some 19, .binOp .lss t_int (.tmp 15) (.tmp 18) t_int, none, false⟩])
    (.cond (.tmp 19)
     .skip
     (.exit 0)))
    (.seq (.block 1 (.seq (.reg [⟨some 22, .fieldAddr t_api_Disk (.tmp 1) 0, none, false⟩,
      ⟨some 23, .load t_L_api_File (.tmp 22), none, false⟩,
      ⟨some 24, .move (.tmp 3), none, false⟩,
      ⟨some 25, .indexAddr t_L_api_File (.tmp 23) (.tmp 24), none, false⟩,
      ⟨some 26, .fieldAddr t_api_File (.tmp 25) 0, none, false⟩,
      ⟨some 27, .load t_string (.tmp 26), none, false⟩,
      ⟨some 28, .call ⟨.builtin .len, ⟨[(.tmp 27)]⟩, ⟨[t_string]⟩⟩, none, false⟩,
      ⟨some 29, .binOp .gtr t_int (.tmp 28) (.const (.int .i64 60)) t_int, none, false⟩,
      ⟨some 30, .move (.tmp 29), none, false⟩,
      ⟨some 31, .fieldAddr t_api_Disk (.tmp 1) 0, some (some 30, false), false⟩,
      ⟨some 32, .load t_L_api_File (.tmp 31), some (some 30, false), false⟩,
      ⟨some 33, .move (.tmp 3), some (some 30, false), false⟩,
      ⟨some 34, .indexAddr t_L_api_File (.tmp 32) (.tmp 33), some (some 30, false), false⟩,
      ⟨some 35, .fieldAddr t_api_File (.tmp 34) 1, some (some 30, false), false⟩,
      ⟨some 36, .load t_string (.tmp 35), some (some 30, false), false⟩,
      ⟨some 37, .call ⟨.builtin .len, ⟨[(.tmp 36)]⟩, ⟨[t_string]⟩⟩, some (some 30, false), false⟩,
      ⟨some 38, .binOp .gtr t_int (.tmp 37) (.const (.int .i64 2000)) t_int, some (some 30, false), false⟩,
      ⟨some 39, .pick (.tmp 30) (.const (.bool true)) (.tmp 38), none, false⟩])
     (.cond (.tmp 39)
      (.seq (.reg [⟨some 2, .assign (.const (.bool false)), none, false⟩])
      .ret)
      .skip)))
    (.reg [⟨some 20, .move (.tmp 3), none, false⟩,
     ⟨some 21, .binOp .add t_int (.tmp 20) (.const (.int .i64 1)) t_int, none, false⟩,
     ⟨some 3, .assign (.tmp 21), none, false⟩]))))))
  (.seq (.seq (.reg [⟨some 4, .assign (.const (.int .i64 0)), none, false⟩])
  (.block 2 (.loop [false, true, false, false, true, false, false, false, false, false, false, false, false, false, false, false, false, false, false, false, false, false, false, false, false, false, false, false, false, false, false, false, false, false, false, false, false, false, false, false, false, false, false, false, false, false, false, false, false, false, false, false, false, false, false, false, false, false, false, false, false, false, false, false, false] none
   (.seq (.seq (.reg [⟨some 40, .move (.tmp 4), none, false⟩,
     ⟨some 41, .fieldAddr t_api_Disk (.tmp 1) 1, none, false⟩,
     ⟨some 42, .load t_L_api_Deed (.tmp 41), none, false⟩,
     ⟨some 43, .call ⟨.builtin .len, ⟨[(.tmp 42)]⟩, ⟨[t_L_api_Deed]⟩⟩, none, false⟩,
     ⟨some 44, .binOp .lss t_int (.tmp 40) (.tmp 43) t_int, none, false⟩])
    (.cond (.tmp 44)
     .skip
     (.exit 2)))
    (.seq (.block 3 (.seq (.reg [⟨some 47, .fieldAddr t_api_Disk (.tmp 1) 1, none, false⟩,
      ⟨some 48, .load t_L_api_Deed (.tmp 47), none, false⟩,
      ⟨some 49, .move (.tmp 4), none, false⟩,
      ⟨some 50, .indexAddr t_L_api_Deed (.tmp 48) (.tmp 49), none, false⟩,
      ⟨some 51, .fieldAddr t_api_Deed (.tmp 50) 1, none, false⟩,
      ⟨some 52, .load t_string (.tmp 51), none, false⟩,
      ⟨some 53, .call ⟨.builtin .len, ⟨[(.tmp 52)]⟩, ⟨[t_string]⟩⟩, none, false⟩,
      ⟨some 54, .binOp .gtr t_int (.tmp 53) (.const (.int .i64 60)) t_int, none, false⟩,
      ⟨some 55, .move (.tmp 54), none, false⟩,
      ⟨some 56, .fieldAddr t_api_Disk (.tmp 1) 1, some (some 55, false), false⟩,
      ⟨some 57, .load t_L_api_Deed (.tmp 56), some (some 55, false), false⟩,
      ⟨some 58, .move (.tmp 4), some (some 55, false), false⟩,
      ⟨some 59, .indexAddr t_L_api_Deed (.tmp 57) (.tmp 58), some (some 55, false), false⟩,
      ⟨some 60, .fieldAddr t_api_Deed (.tmp 59) 2, some (some 55, false), false⟩,
      ⟨some 61, .load t_string (.tmp 60), some (some 55, false), false⟩,
      ⟨some 62, .call ⟨.builtin .len, ⟨[(.tmp 61)]⟩, ⟨[t_string]⟩⟩, some (some 55, false), false⟩,
      ⟨some 63, .binOp .gtr t_int (.tmp 62) (.const (.int .i64 2000)) t_int, some (some 55, false), false⟩,
      ⟨some 64, .pick (.tmp 55) (.const (.bool true)) (.tmp 63), none, false⟩])
     (.cond (.tmp 64)
      (.seq (.reg [⟨some 2, .assign (.const (.bool false)), none, false⟩])
      .ret)
      .skip)))
    (.reg [⟨some 45, .move (.tmp 4), none, false⟩,
     ⟨some 46, .binOp .add t_int (.tmp 45) (.const (.int .i64 1)) t_int, none, false⟩,
     ⟨some 4, .assign (.tmp 46), none, false⟩]))))))
  (.seq (.reg [⟨some 2, .assign (.const (.bool true)), none, false⟩])
  .ret)))))
theorem k_louperef23_Small : FnOk Try.prog f_louperef23_Small 65 [.tmp 2] c_louperef23_Small := ⟨_, _, Try.func33, by kernel_rfl, rfl, Try.ntmps33, rfl, by kernel_rfl⟩

def c_loupelaw23_alive : LC :=
  (.seq (.reg [⟨some 0, .assign (.const (.bool false)), none, false⟩])
  (.seq (.reg [⟨some 16, .build t_api_Disk ⟨[]⟩, none, false⟩,
   ⟨some 17, .makeSlice t_L_uint8 (.const (.int .i64 65)) (.const (.int .i64 65)), none, false⟩,
   ⟨some 18, .convert t_L_uint8 t_string (.tmp 17), none, false⟩,
   ⟨some 19, .call ⟨.value (.func f_file_Save), ⟨[(.tmp 16), (.const (.string ⟨⟨[97]⟩⟩)), (.tmp 18), (.const (.int .i64 (-1)))]⟩, ⟨[t_api_Disk, t_string, t_string, t_int]⟩⟩, none, false⟩,
   ⟨some 15, .move (.tmp 19), none, false⟩,
   ⟨some 20, .extract (.tmp 15) 0, none, false⟩,
   ⟨some 21, .extract (.tmp 15) 1, none, false⟩,
   ⟨some 22, .extract (.tmp 15) 2, none, false⟩,
   ⟨some 1, .alloc t_api_Disk, none, false⟩,
   ⟨none, .store t_api_Disk (.tmp 1) (.tmp 20), none, false⟩,
   ⟨some 2, .assign (.tmp 21), none, false⟩,
   ⟨some 3, .assign (.tmp 22), none, false⟩])
  (.seq (.reg [⟨some 24, .load t_api_Disk (.tmp 1), none, false⟩,
   ⟨some 25, .call ⟨.value (.func f_file_See), ⟨[(.tmp 24), (.const (.string ⟨⟨[97]⟩⟩))]⟩, ⟨[t_api_Disk, t_string]⟩⟩, none, false⟩,
   ⟨some 23, .move (.tmp 25), none, false⟩,
   ⟨some 26, .extract (.tmp 23) 0, none, false⟩,
   ⟨some 27, .extract (.tmp 23) 1, none, false⟩,
   ⟨some 4, .assign (.tmp 26), none, false⟩,
   ⟨some 5, .assign (.tmp 27), none, false⟩])
  (.seq (.reg [⟨some 29, .load t_api_Disk (.tmp 1), none, false⟩,
   ⟨some 30, .call ⟨.value (.func f_file_Save), ⟨[(.tmp 29), (.const (.string ⟨⟨[97]⟩⟩)), (.const (.string ⟨⟨[110, 101, 119]⟩⟩)), (.const (.int .i64 4))]⟩, ⟨[t_api_Disk, t_string, t_string, t_int]⟩⟩, none, false⟩,
   ⟨some 28, .move (.tmp 30), none, false⟩,
   ⟨some 31, .extract (.tmp 28) 0, none, false⟩,
   ⟨some 32, .extract (.tmp 28) 1, none, false⟩,
   ⟨some 33, .extract (.tmp 28) 2, none, false⟩,
   ⟨some 6, .alloc t_api_Disk, none, false⟩,
   ⟨none, .store t_api_Disk (.tmp 6) (.tmp 31), none, false⟩,
   ⟨some 7, .assign (.tmp 32), none, false⟩,
   ⟨some 8, .assign (.tmp 33), none, false⟩])
  (.seq (.reg [⟨some 35, .load t_api_Disk (.tmp 6), none, false⟩,
   ⟨some 36, .call ⟨.value (.func f_file_Crash), ⟨[(.tmp 35), (.const (.int .i64 0))]⟩, ⟨[t_api_Disk, t_int]⟩⟩, none, false⟩,
   ⟨some 37, .call ⟨.value (.func f_file_See), ⟨[(.tmp 36), (.const (.string ⟨⟨[97]⟩⟩))]⟩, ⟨[t_api_Disk, t_string]⟩⟩, none, false⟩,
   ⟨some 34, .move (.tmp 37), none, false⟩,
   ⟨some 38, .extract (.tmp 34) 0, none, false⟩,
   ⟨some 39, .extract (.tmp 34) 1, none, false⟩,
   ⟨some 9, .assign (.tmp 38), none, false⟩,
   ⟨some 10, .assign (.tmp 39), none, false⟩])
  (.seq (.reg [⟨some 41, .load t_api_Disk (.tmp 6), none, false⟩,
   ⟨some 42, .call ⟨.value (.func f_file_Crash), ⟨[(.tmp 41), (.const (.int .i64 1))]⟩, ⟨[t_api_Disk, t_int]⟩⟩, none, false⟩,
   ⟨some 43, .call ⟨.value (.func f_file_See), ⟨[(.tmp 42), (.const (.string ⟨⟨[97]⟩⟩))]⟩, ⟨[t_api_Disk, t_string]⟩⟩, none, false⟩,
   ⟨some 40, .move (.tmp 43), none, false⟩,
   ⟨some 44, .extract (.tmp 40) 0, none, false⟩,
   ⟨some 45, .extract (.tmp 40) 1, none, false⟩,
   ⟨some 11, .assign (.tmp 44), none, false⟩,
   ⟨some 12, .assign (.tmp 45), none, false⟩])
  (.seq (.reg [⟨some 47, .load t_api_Disk (.tmp 1), none, false⟩,
   ⟨some 48, .build t_api_Deed ⟨[(0, (.const (.int .i64 3))), (1, (.const (.string ⟨⟨[98]⟩⟩)))]⟩, none, false⟩,
   ⟨some 49, .call ⟨.value (.func f_file_Do), ⟨[(.tmp 47), (.tmp 48)]⟩, ⟨[t_api_Disk, t_api_Deed]⟩⟩, none, false⟩,
   ⟨some 46, .move (.tmp 49), none, false⟩,
   ⟨some 50, .extract (.tmp 46) 0, none, false⟩,
   ⟨some 51, .extract (.tmp 46) 1, none, false⟩,
   ⟨some 13, .alloc t_api_Disk, none, false⟩,
   ⟨none, .store t_api_Disk (.tmp 13) (.tmp 50), none, false⟩,
   ⟨some 14, .assign (.tmp 51), none, false⟩])
  (.seq (.reg [⟨some 52, .move (.tmp 2), none, false⟩,
   ⟨some 53, .binOp .eql t_int (.tmp 52) (.const (.int .i64 6)) t_int, none, false⟩,
   ⟨some 54, .move (.tmp 53), none, false⟩,
   ⟨some 55, .move (.tmp 3), some (some 54, true), false⟩,
   ⟨some 56, .binOp .eql t_api_Errno (.tmp 55) (.const (.int .i64 0)) t_api_Errno, some (some 54, true), false⟩,
   ⟨some 57, .pick (.tmp 54) (.tmp 56) (.const (.bool false)), none, false⟩,
   ⟨some 58, .move (.tmp 57), none, false⟩,
   ⟨some 59, .move (.tmp 5), some (some 58, true), false⟩,
   ⟨some 60, .pick (.tmp 58) (.tmp 59) (.const (.bool false)), none, false⟩,
   ⟨some 61, .move (.tmp 60), none, false⟩,
   ⟨some 62, .move (.tmp 4), some (some 61, true), false⟩,
   ⟨some 63, .call ⟨.builtin .len, ⟨[(.tmp 62)]⟩, ⟨[t_string]⟩⟩, some (some 61, true), false⟩,
   ⟨some 64, .binOp .eql t_int (.tmp 63) (.const (.int .i64 65)) t_int, some (some 61, true), false⟩,
   ⟨some 65, .pick (.tmp 61) (.tmp 64) (.const (.bool false)), none, false⟩,
   ⟨some 66, .move (.tmp 65), none, false⟩,
   ⟨some 67, .move (.tmp 7), some (some 66, true), false⟩,
   ⟨some 68, .binOp .eql t_int (.tmp 67) (.const (.int .i64 4)) t_int, some (some 66, true), false⟩,
   ⟨some 69, .pick (.tmp 66) (.tmp 68) (.const (.bool false)), none, false⟩,
   ⟨some 70, .move (.tmp 69), none, false⟩,
   ⟨some 71, .move (.tmp 8), some (some 70, true), false⟩,
   ⟨some 72, .binOp .eql t_api_Errno (.tmp 71) (.const (.int .i64 10)) t_api_Errno, some (some 70, true), false⟩,
   ⟨some 73, .pick (.tmp 70) (.tmp 72) (.const (.bool false)), none, false⟩,
   ⟨some 74, .move (.tmp 73), none, false⟩,
   ⟨some 75, .move (.tmp 9), some (some 74, true), false⟩,
   ⟨some 76, .call ⟨.builtin .len, ⟨[(.tmp 75)]⟩, ⟨[t_string]⟩⟩, some (some 74, true), false⟩,
   ⟨some 77, .binOp .eql t_int (.tmp 76) (.const (.int .i64 65)) t_int, some (some 74, true), false⟩,
   ⟨some 78, .pick (.tmp 74) (.tmp 77) (.const (.bool false)), none, false⟩,
   ⟨some 79, .move (.tmp 78), none, false⟩,
   ⟨some 80, .move (.tmp 11), some (some 79, true), false⟩,
   ⟨some 81, .binOp .eql t_string (.tmp 80) (.const (.string ⟨⟨[110, 101, 119]⟩⟩)) t_string, some (some 79, true), false⟩,
   ⟨some 82, .pick (.tmp 79) (.tmp 81) (.const (.bool false)), none, false⟩,
   ⟨some 83, .move (.tmp 82), none, false⟩,
   ⟨some 84, .move (.tmp 14), some (some 83, true), false⟩,
   ⟨some 85, .binOp .eql t_api_Errno (.tmp 84) (.const (.int .i64 6)) t_api_Errno, some (some 83, true), false⟩,
   ⟨some 86, .pick (.tmp 83) (.tmp 85) (.const (.bool false)), none, false⟩,
   ⟨some 87, .move (.tmp 86), none, false⟩,
   ⟨some 88, .load t_api_Disk (.tmp 1), some (some 87, true), false⟩,
   ⟨some 89, .call ⟨.value (.func f_file_Right), ⟨[(.tmp 88)]⟩, ⟨[t_api_Disk]⟩⟩, some (some 87, true), false⟩,
   ⟨some 90, .pick (.tmp 87) (.tmp 89) (.const (.bool false)), none, false⟩,
   ⟨some 91, .move (.tmp 90), none, false⟩,
   ⟨some 92, .call ⟨.value (.func f_file_Plan), ⟨[(.const (.string ⟨⟨[97]⟩⟩)), (.const (.string ⟨⟨[]⟩⟩))]⟩, ⟨[t_string, t_string]⟩⟩, some (some 91, true), false⟩,
   ⟨some 93, .call ⟨.builtin .len, ⟨[(.tmp 92)]⟩, ⟨[t_L_api_Deed]⟩⟩, some (some 91, true), false⟩,
   ⟨some 94, .binOp .eql t_int (.tmp 93) (.const (.int .i64 4)) t_int, some (some 91, true), false⟩,
   ⟨some 95, .pick (.tmp 91) (.tmp 94) (.const (.bool false)), none, false⟩,
   ⟨some 96, .move (.tmp 95), none, false⟩,
   ⟨some 97, .load t_api_Disk (.tmp 1), some (some 96, true), false⟩,
   ⟨some 98, .load t_api_Disk (.tmp 1), some (some 96, true), false⟩,
   ⟨some 99, .call ⟨.value (.func f_file_Same), ⟨[(.tmp 97), (.tmp 98)]⟩, ⟨[t_api_Disk, t_api_Disk]⟩⟩, some (some 96, true), false⟩,
   ⟨some 100, .pick (.tmp 96) (.tmp 99) (.const (.bool false)), none, false⟩,
   ⟨some 0, .assign (.tmp 100), none, false⟩])
  .ret))))))))
theorem k_loupelaw23_alive : FnOk Try.prog f_loupelaw23_alive 101 [.tmp 0] c_loupelaw23_alive := ⟨_, _, Try.func34, by kernel_rfl, rfl, Try.ntmps34, rfl, by kernel_rfl⟩

def c_louperef23_Right : LC :=
  (.seq (.reg [⟨some 1, .box t_api_Disk (.tmp 0), none, false⟩,
   ⟨some 2, .assign (.const (.bool false)), none, false⟩])
  (.seq (.seq (.weak (.reg [⟨some 3, .assign (.const (.int .i64 0)), none, false⟩]))
  (.block 0 (.loop [false, true, false, true, false, false, false, false, false, false, false, false, false, false, false, false, false, false, false, false, false, false, false, false, false, false, false, false, false, false, false, false, false, false, false, false, false, false, false, false, false, false, false, false, false, false, false, false, false, false, false, false, false, false, false, false, false, false, false, false, false, false, false, false, false, false, false, false, false, false, false, false, false, false, false, false, false, false, false, false, false] none
   (.seq (.seq (.reg [⟨some 9, .move (.tmp 3), none, false⟩,
     ⟨some 10, .fieldAddr t_api_Disk (.tmp 1) 0, none, false⟩,
     ⟨some 11, .load t_L_api_File (.tmp 10), none, false⟩,
     ⟨some 12, .call ⟨.builtin .len, ⟨[(.tmp 11)]⟩, ⟨[t_L_api_File]⟩⟩, none, false⟩,
     ⟨some 13, .binOp .lss t_int (.tmp 9) (.tmp 12) t_int, none, false⟩])
    (.cond (.tmp 13)
     .skip
     (.exit 0)))
    (.seq (.block 1 (.seq (.draw [⟨some 16, .fieldAddr t_api_Disk (.tmp 1) 0, none, false⟩,
      ⟨some 17, .load t_L_api_File (.tmp 16), none, false⟩,
      ⟨some 18, .move (.tmp 3), none, false⟩,
      ⟨some 19, .indexAddr t_L_api_File (.tmp 17) (.tmp 18), none, false⟩,
      ⟨some 20, .fieldAddr t_api_File (.tmp 19) 0, none, false⟩,
      ⟨some 21, .load t_string (.tmp 20), none, false⟩,
      ⟨some 22, .call ⟨.value (.func f_louperef23_name), ⟨[(.tmp 21)]⟩, ⟨[t_string]⟩⟩, none, false⟩,
      ⟨some 23, .unOp .not t_bool (.tmp 22), none, false⟩,
      ⟨some 24, .move (.tmp 23), none, false⟩,
      ⟨some 25, .move (.tmp 3), some (some 24, false), false⟩,
      ⟨some 26, .binOp .gtr t_int (.tmp 25) (.const (.int .i64 0)) t_int, some (some 24, false), false⟩,
      ⟨some 27, .move (.tmp 26), some (some 24, false), false⟩,
      ⟨some 28, .fieldAddr t_api_Disk (.tmp 1) 0, some (some 27, true), false⟩,
      ⟨some 29, .load t_L_api_File (.tmp 28), some (some 27, true), false⟩,
      ⟨some 30, .move (.tmp 3), some (some 27, true), false⟩,
      ⟨some 31, .binOp .sub t_int (.tmp 30) (.const (.int .i64 1)) t_int, some (some 27, true), false⟩,
      ⟨some 32, .indexAddr t_L_api_File (.tmp 29) (.tmp 31), some (some 27, true), false⟩,
      ⟨some 33, .fieldAddr t_api_File (.tmp 32) 0, some (some 27, true), false⟩,
      ⟨some 34, .load t_string (.tmp 33), some (some 27, true), false⟩,
      ⟨some 35, .fieldAddr t_api_Disk (.tmp 1) 0, some (some 27, true), false⟩,
      ⟨some 36, .load t_L_api_File (.tmp 35), some (some 27, true), false⟩,
      ⟨some 37, .move (.tmp 3), some (some 27, true), false⟩,
      ⟨some 38, .indexAddr t_L_api_File (.tmp 36) (.tmp 37), some (some 27, true), false⟩,
      ⟨some 39, .fieldAddr t_api_File (.tmp 38) 0, some (some 27, true), false⟩,
      ⟨some 40, .load t_string (.tmp 39), some (some 27, true), false⟩,
      ⟨some 41, .binOp .geq t_string (.tmp 34) (.tmp 40) t_string, some (some 27, true), false⟩,
      ⟨some 42, .pick (.tmp 27) (.tmp 41) (.const (.bool false)), some (some 24, false), false⟩,
      ⟨some 43, .pick (.tmp 24) (.const (.bool true)) (.tmp 42), none, false⟩]
     [0, 0, 3, 0, 0, 0, 0, 0, 0, 0, 0, 0, 0, 0, 12288, 12288, 0, 0, 0, 520192, 520192, 2093056, 520192, 520192, 520192, 0, 0, 0])
     (.cond (.tmp 43)
      (.seq (.reg [⟨some 2, .assign (.const (.bool false)), none, false⟩])
      .ret)
      .skip)))
    (.reg [⟨some 14, .move (.tmp 3), none, false⟩,
     ⟨some 15, .binOp .add t_int (.tmp 14) (.const (.int .i64 1)) t_int, none, false⟩,
     ⟨some 3, .assign (.tmp 15), none, false⟩]))))))
  (.seq (.seq (.reg [⟨some 4, .assign (.const (.int .i64 0)), none, false⟩])
  (.block 2 (.loop [false, true, false, false, true, false, false, false, false, false, false, false, false, false, false, false, false, false, false, false, false, false, false, false, false, false, false, false, false, false, false, false, false, false, false, false, false, false, false, false, false, false, false, false, false, false, false, false, false, false, false, false, false, false, false, false, false, false, false, false, false, false, false, false, false, false, false, false, false, false, false, false, false, false, false, false, false, false, false, false, false] (some (1, 0))
   (.seq (.seq (.reg [⟨some 44, .move (.tmp 4), none, false⟩,
     ⟨some 45, .fieldAddr t_api_Disk (.tmp 1) 1, none, false⟩,
     ⟨some 46, .load t_L_api_Deed (.tmp 45), none, false⟩,
     ⟨some 47, .call ⟨.builtin .len, ⟨[(.tmp 46)]⟩, ⟨[t_L_api_Deed]⟩⟩, none, false⟩,
     ⟨some 48, .binOp .lss t_int (.tmp 44) (.tmp 47) t_int, none, false⟩])
    (.cond (.tmp 48)
     .skip
     (.exit 2)))
    (.seq (.block 3 (.seq (.reg [⟨some 51, .fieldAddr t_api_Disk (.tmp 1) 1, none, false⟩,
      ⟨some 52, .load t_L_api_Deed (.tmp 51), none, false⟩,
      ⟨some 53, .move (.tmp 4), none, false⟩,
      ⟨some 54, .indexAddr t_L_api_Deed (.tmp 52) (.tmp 53), none, false⟩,
      ⟨some 55, .load t_api_Deed (.tmp 54), none, false⟩,
      ⟨some 5, .alloc t_api_Deed, none, false⟩,
      ⟨none, .store t_api_Deed (.tmp 5) (.tmp 55), none, false⟩])
     (.seq (.draw [⟨some 56, .fieldAddr t_api_Disk (.tmp 1) 0, none, false⟩,
      ⟨some 57, .load t_L_api_File (.tmp 56), none, false⟩,
      ⟨some 58, .fieldAddr t_api_Disk (.tmp 1) 1, none, false⟩,
      ⟨some 59, .load t_L_api_Deed (.tmp 58), none, false⟩,
      ⟨some 60, .move (.tmp 4), none, false⟩,
      ⟨some 61, .slice t_L_api_Deed (.tmp 59) none (some (.tmp 60)) none, none, false⟩,
      ⟨some 62, .build t_api_Disk ⟨[(0, (.tmp 57)), (1, (.tmp 61))]⟩, none, false⟩,
      ⟨some 6, .alloc t_api_Disk, none, false⟩,
      ⟨none, .store t_api_Disk (.tmp 6) (.tmp 62), none, false⟩]
     [0, 0, 3, 3, 15, 3, 0, 127, 0])
     (.seq (.reg [⟨some 64, .load t_api_Disk (.tmp 6), none, false⟩,
      ⟨some 65, .fieldAddr t_api_Deed (.tmp 5) 1, none, false⟩,
      ⟨some 66, .load t_string (.tmp 65), none, false⟩,
      ⟨some 67, .call ⟨.value (.func f_louperef23_See), ⟨[(.tmp 64), (.tmp 66)]⟩, ⟨[t_api_Disk, t_string]⟩⟩, none, false⟩,
      ⟨some 63, .move (.tmp 67), none, false⟩,
      ⟨some 68, .extract (.tmp 63) 0, none, false⟩,
      ⟨some 69, .extract (.tmp 63) 1, none, false⟩,
      ⟨some 7, .assign (.tmp 68), none, false⟩,
      ⟨some 8, .assign (.tmp 69), none, false⟩])
     (.seq (.reg [⟨some 70, .load t_api_Deed (.tmp 5), none, false⟩,
      ⟨some 71, .call ⟨.value (.func f_louperef23_may), ⟨[(.tmp 70)]⟩, ⟨[t_api_Deed]⟩⟩, none, false⟩,
      ⟨some 72, .unOp .not t_bool (.tmp 71), none, false⟩,
      ⟨some 73, .move (.tmp 72), none, false⟩,
      ⟨some 74, .load t_api_Deed (.tmp 5), some (some 73, false), false⟩,
      ⟨some 75, .call ⟨.value (.func f_louperef23_needs), ⟨[(.tmp 74)]⟩, ⟨[t_api_Deed]⟩⟩, some (some 73, false), false⟩,
      ⟨some 76, .move (.tmp 75), some (some 73, false), false⟩,
      ⟨some 77, .move (.tmp 8), some (some 76, true), false⟩,
      ⟨some 78, .unOp .not t_bool (.tmp 77), some (some 76, true), false⟩,
      ⟨some 79, .pick (.tmp 76) (.tmp 78) (.const (.bool false)), some (some 73, false), false⟩,
      ⟨some 80, .pick (.tmp 73) (.const (.bool true)) (.tmp 79), none, false⟩])
     (.cond (.tmp 80)
      (.seq (.reg [⟨some 2, .assign (.const (.bool false)), none, false⟩])
      .ret)
      .skip))))))
    (.reg [⟨some 49, .move (.tmp 4), none, false⟩,
     ⟨some 50, .binOp .add t_int (.tmp 49) (.const (.int .i64 1)) t_int, none, false⟩,
     ⟨some 4, .assign (.tmp 50), none, false⟩]))))))
  (.seq (.reg [⟨some 2, .assign (.const (.bool true)), none, false⟩])
  .ret))))
theorem k_louperef23_Right : FnOk Try.prog f_louperef23_Right 81 [.tmp 2] c_louperef23_Right := ⟨_, _, Try.func35, by kernel_rfl, rfl, Try.ntmps35, rfl, by kernel_rfl⟩

def c_file_Right : LC :=
  (.seq (.reg [⟨some 1, .box t_api_Disk (.tmp 0), none, false⟩,
   ⟨some 2, .assign (.const (.bool false)), none, false⟩])
  (.seq (.weak (.reg [⟨some 3, .assign (.const (.string ⟨⟨[]⟩⟩)), none, false⟩]))
  (.seq (.seq (.reg [⟨some 11, .fieldAddr t_api_Disk (.tmp 1) 0, none, false⟩,
   ⟨some 12, .load t_L_api_File (.tmp 11), none, false⟩,
   ⟨some 13, .call ⟨.builtin .len, ⟨[(.tmp 12)]⟩, ⟨[t_L_api_File]⟩⟩, none, false⟩,
   ⟨some 14, .move (.const (.int .i64 0)), none, false⟩])
  (.block 0 (.loop [false, true, false, true, false, false, false, false, false, false, false, false, true, true, true, false, false, false, false, false, false, false, false, false, false, false, false, false, false, false, false, false, false, false, false, false, false, false, false, false, false, false, false, false, false, false, false, false, false, false] (some (1, 0))
   (.seq (.reg [⟨some 15, .binOp .lss t_int (.tmp 14) (.tmp 13) t_int, none, false⟩])
    (.seq (.cond (.tmp 15)
     .skip
     (.exit 0))
    (.seq (.block 1 (.seq (.reg [⟨some 16, .indexAddr t_L_api_File (.tmp 12) (.tmp 14), none, false⟩,
      ⟨some 17, .load t_api_File (.tmp 16), none, false⟩,
      ⟨some 5, .alloc t_api_File, none, false⟩,
      ⟨none, .store t_api_File (.tmp 5) (.tmp 17), none, false⟩])
     (.seq (.seq (.reg [⟨some 18, .fieldAddr t_api_File (.tmp 5) 0, none, false⟩,
      ⟨some 19, .load t_string (.tmp 18), none, false⟩,
      ⟨some 20, .call ⟨.value (.func f_file_isName), ⟨[(.tmp 19)]⟩, ⟨[t_string]⟩⟩, none, false⟩,
      ⟨some 21, .unOp .not t_bool (.tmp 20), none, false⟩,
      ⟨some 22, .move (.tmp 21), none, false⟩,
      ⟨some 23, .fieldAddr t_api_File (.tmp 5) 0, some (some 22, false), false⟩,
      ⟨some 24, .load t_string (.tmp 23), some (some 22, false), false⟩,
      ⟨some 25, .move (.tmp 3), some (some 22, false), false⟩,
      ⟨some 26, .binOp .leq t_string (.tmp 24) (.tmp 25) t_string, some (some 22, false), false⟩,
      ⟨some 27, .pick (.tmp 22) (.const (.bool true)) (.tmp 26), none, false⟩])
     (.cond (.tmp 27)
      (.seq (.reg [⟨some 2, .assign (.const (.bool false)), none, false⟩])
      .ret)
      .skip))
     (.reg [⟨some 28, .fieldAddr t_api_File (.tmp 5) 0, none, false⟩,
      ⟨some 29, .load t_string (.tmp 28), none, false⟩,
      ⟨some 3, .assign (.tmp 29), none, false⟩]))))
    (.reg [⟨some 30, .binOp .add t_int (.tmp 14) (.const (.int .i64 1)) t_int, none, false⟩,
     ⟨some 14, .move (.tmp 30), none, false⟩])))))))
  (.seq (.reg [⟨some 31, .fieldAddr t_api_Disk (.tmp 1) 0, none, false⟩,
   ⟨some 32, .load t_L_api_File (.tmp 31), none, false⟩,
   ⟨some 6, .assign (.tmp 32), none, false⟩])
  (.seq (.seq (.reg [⟨some 33, .fieldAddr t_api_Disk (.tmp 1) 1, none, false⟩,
   ⟨some 34, .load t_L_api_Deed (.tmp 33), none, false⟩,
   ⟨some 35, .call ⟨.builtin .len, ⟨[(.tmp 34)]⟩, ⟨[t_L_api_Deed]⟩⟩, none, false⟩,
   ⟨some 36, .move (.const (.int .i64 0)), none, false⟩])
  (.block 2 (.loop [false, false, false, false, false, false, true, false, false, false, false, false, false, false, false, false, false, false, false, false, false, false, false, false, false, false, false, false, false, false, false, false, false, false, true, true, true, false, false, false, false, false, false, false, false, false, false, false, false, false] (some (1, 0))
   (.seq (.reg [⟨some 37, .binOp .lss t_int (.tmp 36) (.tmp 35) t_int, none, false⟩])
    (.seq (.cond (.tmp 37)
     .skip
     (.exit 2))
    (.seq (.block 3 (.seq (.reg [⟨some 38, .indexAddr t_L_api_Deed (.tmp 34) (.tmp 36), none, false⟩,
      ⟨some 39, .load t_api_Deed (.tmp 38), none, false⟩,
      ⟨some 8, .alloc t_api_Deed, none, false⟩,
      ⟨none, .store t_api_Deed (.tmp 8) (.tmp 39), none, false⟩])
     (.seq (.reg [⟨some 41, .move (.tmp 6), none, false⟩,
      ⟨some 42, .load t_api_Deed (.tmp 8), none, false⟩,
      ⟨some 43, .call ⟨.value (.func f_file_done), ⟨[(.tmp 41), (.tmp 42)]⟩, ⟨[t_L_api_File, t_api_Deed]⟩⟩, none, false⟩,
      ⟨some 40, .move (.tmp 43), none, false⟩,
      ⟨some 44, .extract (.tmp 40) 0, none, false⟩,
      ⟨some 45, .extract (.tmp 40) 1, none, false⟩,
      ⟨some 9, .assign (.tmp 44), none, false⟩,
      ⟨some 10, .assign (.tmp 45), none, false⟩])
     (.seq (.seq (.reg [⟨some 46, .move (.tmp 10), none, false⟩,
      ⟨some 47, .unOp .not t_bool (.tmp 46), none, false⟩])
     (.cond (.tmp 47)
      (.seq (.reg [⟨some 2, .assign (.const (.bool false)), none, false⟩])
      .ret)
      .skip))
     (.reg [⟨some 48, .move (.tmp 9), none, false⟩,
      ⟨some 6, .assign (.tmp 48), none, false⟩])))))
    (.reg [⟨some 49, .binOp .add t_int (.tmp 36) (.const (.int .i64 1)) t_int, none, false⟩,
     ⟨some 36, .move (.tmp 49), none, false⟩])))))))
  (.seq (.reg [⟨some 2, .assign (.const (.bool true)), none, false⟩])
  .ret))))))
theorem k_file_Right : FnOk Try.prog f_file_Right 50 [.tmp 2] c_file_Right := ⟨_, _, Try.func36, by kernel_rfl, rfl, Try.ntmps36, rfl, by kernel_rfl⟩

def c_file_Same : LC :=
  (.seq (.reg [⟨some 2, .box t_api_Disk (.tmp 0), none, false⟩,
   ⟨some 3, .box t_api_Disk (.tmp 1), none, false⟩,
   ⟨some 4, .assign (.const (.bool false)), none, false⟩])
  (.seq (.weak (.reg [⟨some 5, .fieldAddr t_api_Disk (.tmp 2) 0, none, false⟩,
   ⟨some 6, .load t_L_api_File (.tmp 5), none, false⟩,
   ⟨some 7, .fieldAddr t_api_Disk (.tmp 3) 0, none, false⟩,
   ⟨some 8, .load t_L_api_File (.tmp 7), none, false⟩,
   ⟨some 9, .call ⟨.value (.func f_slices_Equal_L_api_File_api_File_), ⟨[(.tmp 6), (.tmp 8)]⟩, ⟨[t_L_api_File, t_L_api_File]⟩⟩, none, false⟩,
   ⟨some 10, .move (.tmp 9), none, false⟩,
   ⟨some 11, .fieldAddr t_api_Disk (.tmp 2) 1, some (some 10, true), false⟩,
   ⟨some 12, .load t_L_api_Deed (.tmp 11), some (some 10, true), false⟩,
   ⟨some 13, .fieldAddr t_api_Disk (.tmp 3) 1, some (some 10, true), false⟩,
   ⟨some 14, .load t_L_api_Deed (.tmp 13), some (some 10, true), false⟩,
   ⟨some 15, .call ⟨.value (.func f_slices_Equal_L_api_Deed_api_Deed_), ⟨[(.tmp 12), (.tmp 14)]⟩, ⟨[t_L_api_Deed, t_L_api_Deed]⟩⟩, some (some 10, true), false⟩,
   ⟨some 16, .pick (.tmp 10) (.tmp 15) (.const (.bool false)), none, false⟩,
   ⟨some 4, .assign (.tmp 16), none, false⟩]))
  .ret))
theorem k_file_Same : FnOk Try.prog f_file_Same 17 [.tmp 4] c_file_Same := ⟨_, _, Try.func37, by kernel_rfl, rfl, Try.ntmps37, rfl, by kernel_rfl⟩

def c_louperef23_Same : LC :=
  (.seq (.reg [⟨some 2, .box t_api_Disk (.tmp 0), none, false⟩,
   ⟨some 3, .box t_api_Disk (.tmp 1), none, false⟩,
   ⟨some 4, .assign (.const (.bool false)), none, false⟩])
  (.seq (.seq (.weak (.reg [⟨some 7, .fieldAddr t_api_Disk (.tmp 2) 0, none, false⟩,
   ⟨some 8, .load t_L_api_File (.tmp 7), none, false⟩,
   ⟨some 9, .call ⟨.builtin .len, ⟨[(.tmp 8)]⟩, ⟨[t_L_api_File]⟩⟩, none, false⟩,
   ⟨some 10, .fieldAddr t_api_Disk (.tmp 3) 0, none, false⟩,
   ⟨some 11, .load t_L_api_File (.tmp 10), none, false⟩,
   ⟨some 12, .call ⟨.builtin .len, ⟨[(.tmp 11)]⟩, ⟨[t_L_api_File]⟩⟩, none, false⟩,
   ⟨some 13, .binOp .neq t_int (.tmp 9) (.tmp 12) t_int, none, false⟩,
   ⟨some 14, .move (.tmp 13), none, false⟩,
   ⟨some 15, .fieldAddr t_api_Disk (.tmp 2) 1, some (some 14, false), false⟩,
   ⟨some 16, .load t_L_api_Deed (.tmp 15), some (some 14, false), false⟩,
   ⟨some 17, .call ⟨.builtin .len, ⟨[(.tmp 16)]⟩, ⟨[t_L_api_Deed]⟩⟩, some (some 14, false), false⟩,
   ⟨some 18, .fieldAddr t_api_Disk (.tmp 3) 1, some (some 14, false), false⟩,
   ⟨some 19, .load t_L_api_Deed (.tmp 18), some (some 14, false), false⟩,
   ⟨some 20, .call ⟨.builtin .len, ⟨[(.tmp 19)]⟩, ⟨[t_L_api_Deed]⟩⟩, some (some 14, false), false⟩,
   ⟨some 21, .binOp .neq t_int (.tmp 17) (.tmp 20) t_int, some (some 14, false), false⟩,
   ⟨some 22, .pick (.tmp 14) (.const (.bool true)) (.tmp 21), none, false⟩]))
  (.cond (.tmp 22)
   (.seq (.reg [⟨some 4, .assign (.const (.bool false)), none, false⟩])
   .ret)
   .skip))
  (.seq (.seq (.reg [⟨some 5, .assign (.const (.int .i64 0)), none, false⟩])
  (.block 0 (.loop [false, false, true, true, false, true, false, false, false, false, false, false, false, false, false, false, false, false, false, false, false, false, false, false, false, false, false, false, false, false, false, false, false, false, false, false, false, false, false, false, false, false, false, false, false, false, false, false, false, false, false, false, false, false, false, false, false, false, false] none
   (.seq (.seq (.reg [⟨some 23, .move (.tmp 5), none, false⟩,
     ⟨some 24, .fieldAddr t_api_Disk (.tmp 2) 0, none, false⟩,
     ⟨some 25, .load t_L_api_File (.tmp 24), none, false⟩,
     ⟨some 26, .call ⟨.builtin .len, ⟨[(.tmp 25)]⟩, ⟨[t_L_api_File]⟩⟩, none, false⟩,
     ⟨some 27, .binOp .lss t_int (.tmp 23) (.tmp 26) t_int, none, false⟩])
    (.cond (.tmp 27)
     .skip
     (.exit 0)))
    (.seq (.block 1 (.seq (.draw [⟨some 30, .fieldAddr t_api_Disk (.tmp 2) 0, none, false⟩,
      ⟨some 31, .load t_L_api_File (.tmp 30), none, false⟩,
      ⟨some 32, .move (.tmp 5), none, false⟩,
      ⟨some 33, .indexAddr t_L_api_File (.tmp 31) (.tmp 32), none, false⟩,
      ⟨some 34, .load t_api_File (.tmp 33), none, false⟩,
      ⟨some 35, .fieldAddr t_api_Disk (.tmp 3) 0, none, false⟩,
      ⟨some 36, .load t_L_api_File (.tmp 35), none, false⟩,
      ⟨some 37, .move (.tmp 5), none, false⟩,
      ⟨some 38, .indexAddr t_L_api_File (.tmp 36) (.tmp 37), none, false⟩,
      ⟨some 39, .load t_api_File (.tmp 38), none, false⟩,
      ⟨some 40, .binOp .neq t_api_File (.tmp 34) (.tmp 39) t_api_File, none, false⟩]
     [0, 0, 3, 0, 0, 31, 31, 127, 31, 31, 0])
     (.cond (.tmp 40)
      (.seq (.reg [⟨some 4, .assign (.const (.bool false)), none, false⟩])
      .ret)
      .skip)))
    (.reg [⟨some 28, .move (.tmp 5), none, false⟩,
     ⟨some 29, .binOp .add t_int (.tmp 28) (.const (.int .i64 1)) t_int, none, false⟩,
     ⟨some 5, .assign (.tmp 29), none, false⟩]))))))
  (.seq (.seq (.reg [⟨some 6, .assign (.const (.int .i64 0)), none, false⟩])
  (.block 2 (.loop [false, false, true, true, false, false, true, false, false, false, false, false, false, false, false, false, false, false, false, false, false, false, false, false, false, false, false, false, false, false, false, false, false, false, false, false, false, false, false, false, false, false, false, false, false, false, false, false, false, false, false, false, false, false, false, false, false, false, false] none
   (.seq (.seq (.reg [⟨some 41, .move (.tmp 6), none, false⟩,
     ⟨some 42, .fieldAddr t_api_Disk (.tmp 2) 1, none, false⟩,
     ⟨some 43, .load t_L_api_Deed (.tmp 42), none, false⟩,
     ⟨some 44, .call ⟨.builtin .len, ⟨[(.tmp 43)]⟩, ⟨[t_L_api_Deed]⟩⟩, none, false⟩,
     ⟨some 45, .binOp .lss t_int (.tmp 41) (.tmp 44) t_int, none, false⟩])
    (.cond (.tmp 45)
     .skip
     (.exit 2)))
    (.seq (.block 3 (.seq (.draw [⟨some 48, .fieldAddr t_api_Disk (.tmp 2) 1, none, false⟩,
      ⟨some 49, .load t_L_api_Deed (.tmp 48), none, false⟩,
      ⟨some 50, .move (.tmp 6), none, false⟩,
      ⟨some 51, .indexAddr t_L_api_Deed (.tmp 49) (.tmp 50), none, false⟩,
      ⟨some 52, .load t_api_Deed (.tmp 51), none, false⟩,
      ⟨some 53, .fieldAddr t_api_Disk (.tmp 3) 1, none, false⟩,
      ⟨some 54, .load t_L_api_Deed (.tmp 53), none, false⟩,
      ⟨some 55, .move (.tmp 6), none, false⟩,
      ⟨some 56, .indexAddr t_L_api_Deed (.tmp 54) (.tmp 55), none, false⟩,
      ⟨some 57, .load t_api_Deed (.tmp 56), none, false⟩,
      ⟨some 58, .binOp .neq t_api_Deed (.tmp 52) (.tmp 57) t_api_Deed, none, false⟩]
     [0, 0, 3, 0, 0, 31, 31, 127, 31, 31, 0])
     (.cond (.tmp 58)
      (.seq (.reg [⟨some 4, .assign (.const (.bool false)), none, false⟩])
      .ret)
      .skip)))
    (.reg [⟨some 46, .move (.tmp 6), none, false⟩,
     ⟨some 47, .binOp .add t_int (.tmp 46) (.const (.int .i64 1)) t_int, none, false⟩,
     ⟨some 6, .assign (.tmp 47), none, false⟩]))))))
  (.seq (.reg [⟨some 4, .assign (.const (.bool true)), none, false⟩])
  .ret)))))
theorem k_louperef23_Same : FnOk Try.prog f_louperef23_Same 59 [.tmp 4] c_louperef23_Same := ⟨_, _, Try.func38, by kernel_rfl, rfl, Try.ntmps38, rfl, by kernel_rfl⟩

def c_file_See : LC :=
  (.seq (.reg [⟨some 2, .box t_api_Disk (.tmp 0), none, false⟩,
   ⟨some 4, .assign (.const (.string ⟨⟨[]⟩⟩)), none, false⟩,
   ⟨some 5, .assign (.const (.bool false)), none, false⟩])
  (.seq (.weak (.reg [⟨some 9, .load t_api_Disk (.tmp 2), none, false⟩,
   ⟨some 10, .fieldAddr t_api_Disk (.tmp 2) 1, none, false⟩,
   ⟨some 11, .load t_L_api_Deed (.tmp 10), none, false⟩,
   ⟨some 12, .call ⟨.builtin .len, ⟨[(.tmp 11)]⟩, ⟨[t_L_api_Deed]⟩⟩, none, false⟩,
   ⟨some 13, .call ⟨.value (.func f_file_Crash), ⟨[(.tmp 9), (.tmp 12)]⟩, ⟨[t_api_Disk, t_int]⟩⟩, none, false⟩,
   ⟨some 14, .field t_api_Disk (.tmp 13) 0, none, false⟩,
   ⟨some 6, .assign (.tmp 14), none, false⟩]))
  (.seq (.reg [⟨some 16, .move (.tmp 6), none, false⟩,
   ⟨some 17, .move (.tmp 1), none, false⟩,
   ⟨some 18, .call ⟨.value (.func f_file_find), ⟨[(.tmp 16), (.tmp 17)]⟩, ⟨[t_L_api_File, t_string]⟩⟩, none, false⟩,
   ⟨some 15, .move (.tmp 18), none, false⟩,
   ⟨some 19, .extract (.tmp 15) 0, none, false⟩,
   ⟨some 20, .extract (.tmp 15) 1, none, false⟩,
   ⟨some 7, .assign (.tmp 19), none, false⟩,
   ⟨some 8, .assign (.tmp 20), none, false⟩])
  (.seq (.seq (.reg [⟨some 21, .move (.tmp 8), none, false⟩,
   ⟨some 22, .unOp .not t_bool (.tmp 21), none, false⟩])
  (.cond (.tmp 22)
   (.seq (.reg [⟨some 4, .assign (.const (.string ⟨⟨[]⟩⟩)), none, false⟩,
    ⟨some 5, .assign (.const (.bool false)), none, false⟩])
   .ret)
   .skip))
  (.seq (.reg [⟨some 23, .move (.tmp 6), none, false⟩,
   ⟨some 24, .move (.tmp 7), none, false⟩,
   ⟨some 25, .indexAddr t_L_api_File (.tmp 23) (.tmp 24), none, false⟩,
   ⟨some 26, .fieldAddr t_api_File (.tmp 25) 1, none, false⟩,
   ⟨some 27, .load t_string (.tmp 26), none, false⟩,
   ⟨some 4, .assign (.tmp 27), none, false⟩,
   ⟨some 5, .assign (.const (.bool true)), none, false⟩])
  .ret)))))
theorem k_file_See : FnOk Try.prog f_file_See 28 [.tmp 4, .tmp 5] c_file_See := ⟨_, _, Try.func39, by kernel_rfl, rfl, Try.ntmps39, rfl, by kernel_rfl⟩

def c_louperef23_See : LC :=
  (.seq (.reg [⟨some 2, .box t_api_Disk (.tmp 0), none, false⟩,
   ⟨some 4, .assign (.const (.string ⟨⟨[]⟩⟩)), none, false⟩,
   ⟨some 5, .assign (.const (.bool false)), none, false⟩])
  (.seq (.weak (.reg [⟨some 8, .load t_api_Disk (.tmp 2), none, false⟩,
   ⟨some 9, .call ⟨.value (.func f_louperef23_Seen), ⟨[(.tmp 8)]⟩, ⟨[t_api_Disk]⟩⟩, none, false⟩,
   ⟨some 6, .assign (.tmp 9), none, false⟩]))
  (.seq (.reg [⟨some 10, .move (.tmp 6), none, false⟩,
   ⟨some 11, .move (.tmp 1), none, false⟩,
   ⟨some 12, .call ⟨.value (.func f_louperef23_Find), ⟨[(.tmp 10), (.tmp 11)]⟩, ⟨[t_L_api_File, t_string]⟩⟩, none, false⟩,
   ⟨some 7, .assign (.tmp 12), none, false⟩])
  (.seq (.seq (.reg [⟨some 13, .move (.tmp 7), none, false⟩,
   ⟨some 14, .binOp .lss t_int (.tmp 13) (.const (.int .i64 0)) t_int, none, false⟩])
  (.cond (.tmp 14)
   (.seq (.reg [⟨some 4, .assign (.const (.string ⟨⟨[]⟩⟩)), none, false⟩,
    ⟨some 5, .assign (.const (.bool false)), none, false⟩])
   .ret)
   .skip))
  (.seq (.reg [⟨some 15, .move (.tmp 6), none, false⟩,
   ⟨some 16, .move (.tmp 7), none, false⟩,
   ⟨some 17, .indexAddr t_L_api_File (.tmp 15) (.tmp 16), none, false⟩,
   ⟨some 18, .fieldAddr t_api_File (.tmp 17) 1, none, false⟩,
   ⟨some 19, .load t_string (.tmp 18), none, false⟩,
   ⟨some 4, .assign (.tmp 19), none, false⟩,
   ⟨some 5, .assign (.const (.bool true)), none, false⟩])
  .ret)))))
theorem k_louperef23_See : FnOk Try.prog f_louperef23_See 20 [.tmp 4, .tmp 5] c_louperef23_See := ⟨_, _, Try.func40, by kernel_rfl, rfl, Try.ntmps40, rfl, by kernel_rfl⟩

def c_louperef23_Few : LC :=
  (.seq (.reg [⟨some 1, .box t_api_Disk (.tmp 0), none, false⟩,
   ⟨some 2, .assign (.const (.bool false)), none, false⟩])
  (.seq (.weak (.reg [⟨some 3, .load t_api_Disk (.tmp 1), none, false⟩,
   ⟨some 4, .call ⟨.value (.func f_louperef23_Small), ⟨[(.tmp 3)]⟩, ⟨[t_api_Disk]⟩⟩, none, false⟩,
   ⟨some 5, .move (.tmp 4), none, false⟩,
   ⟨some 6, .load t_api_Disk (.tmp 1), some (some 5, true), false⟩,
   ⟨some 7, .call ⟨.value (.func f_louperef23_Right), ⟨[(.tmp 6)]⟩, ⟨[t_api_Disk]⟩⟩, some (some 5, true), false⟩,
   ⟨some 8, .pick (.tmp 5) (.tmp 7) (.const (.bool false)), none, false⟩,
   ⟨some 2, .assign (.tmp 8), none, false⟩]))
  .ret))
theorem k_louperef23_Few : FnOk Try.prog f_louperef23_Few 9 [.tmp 2] c_louperef23_Few := ⟨_, _, Try.func41, by kernel_rfl, rfl, Try.ntmps41, rfl, by kernel_rfl⟩

def c_file_Do : LC :=
  (.seq (.reg [⟨some 2, .box t_api_Disk (.tmp 0), none, false⟩,
   ⟨some 3, .box t_api_Deed (.tmp 1), none, false⟩,
   ⟨some 4, .alloc t_api_Disk, none, false⟩,
   ⟨some 5, .assign (.const (.int .i64 0)), none, false⟩])
  (.seq (.seq (.reg [⟨some 9, .load t_api_Deed (.tmp 3), none, false⟩,
   ⟨some 10, .call ⟨.value (.func f_file_may), ⟨[(.tmp 9)]⟩, ⟨[t_api_Deed]⟩⟩, none, false⟩,
   ⟨some 11, .unOp .not t_bool (.tmp 10), none, false⟩])
  (.cond (.tmp 11)
   (.seq (.reg [⟨some 12, .load t_api_Disk (.tmp 2), none, false⟩,
    ⟨none, .store t_api_Disk (.tmp 4) (.tmp 12), none, false⟩,
    ⟨some 5, .assign (.const (.int .i64 4)), none, false⟩])
   .ret)
   .skip))
  (.seq (.reg [⟨some 13, .load t_api_Disk (.tmp 2), none, false⟩,
   ⟨some 14, .fieldAddr t_api_Disk (.tmp 2) 1, none, false⟩,
   ⟨some 15, .load t_L_api_Deed (.tmp 14), none, false⟩,
   ⟨some 16, .call ⟨.builtin .len, ⟨[(.tmp 15)]⟩, ⟨[t_L_api_Deed]⟩⟩, none, false⟩,
   ⟨some 17, .call ⟨.value (.func f_file_Crash), ⟨[(.tmp 13), (.tmp 16)]⟩, ⟨[t_api_Disk, t_int]⟩⟩, none, false⟩,
   ⟨some 6, .alloc t_api_Disk, none, false⟩,
   ⟨none, .store t_api_Disk (.tmp 6) (.tmp 17), none, false⟩])
  (.seq (.seq (.reg [⟨some 19, .fieldAddr t_api_Disk (.tmp 6) 0, none, false⟩,
   ⟨some 20, .load t_L_api_File (.tmp 19), none, false⟩,
   ⟨some 21, .load t_api_Deed (.tmp 3), none, false⟩,
   ⟨some 22, .call ⟨.value (.func f_file_done), ⟨[(.tmp 20), (.tmp 21)]⟩, ⟨[t_L_api_File, t_api_Deed]⟩⟩, none, false⟩,
   ⟨some 18, .move (.tmp 22), none, false⟩,
   ⟨some 23, .extract (.tmp 18) 0, none, false⟩,
   ⟨some 24, .extract (.tmp 18) 1, none, false⟩,
   ⟨some 7, .assign (.tmp 23), none, false⟩,
   ⟨some 8, .assign (.tmp 24), none, false⟩])
  (.seq (.reg [⟨some 25, .move (.tmp 8), none, false⟩,
   ⟨some 26, .unOp .not t_bool (.tmp 25), none, false⟩])
  (.cond (.tmp 26)
   (.seq (.reg [⟨some 27, .load t_api_Disk (.tmp 2), none, false⟩,
    ⟨none, .store t_api_Disk (.tmp 4) (.tmp 27), none, false⟩,
    ⟨some 5, .assign (.const (.int .i64 6)), none, false⟩])
   .ret)
   .skip)))
  (.seq (.seq (.reg [⟨some 28, .fieldAddr t_api_Deed (.tmp 3) 0, none, false⟩,
   ⟨some 29, .load t_int (.tmp 28), none, false⟩,
   ⟨some 30, .binOp .eql t_int (.tmp 29) (.const (.int .i64 4)) t_int, none, false⟩])
  (.cond (.tmp 30)
   (.seq (.reg [⟨some 31, .load t_api_Disk (.tmp 6), none, false⟩,
    ⟨none, .store t_api_Disk (.tmp 4) (.tmp 31), none, false⟩,
    ⟨some 5, .assign (.const (.int .i64 0)), none, false⟩])
   .ret)
   .skip))
  (.seq (.draw [⟨some 32, .fieldAddr t_api_Disk (.tmp 2) 1, none, false⟩,
   ⟨some 33, .load t_L_api_Deed (.tmp 32), none, false⟩,
   ⟨some 34, .call ⟨.value (.func f_slices_Clip_L_api_Deed_api_Deed_), ⟨[(.tmp 33)]⟩, ⟨[t_L_api_Deed]⟩⟩, none, false⟩,
   ⟨some 35, .load t_api_Deed (.tmp 3), none, false⟩,
   ⟨some 36, .buildSlice t_L_api_Deed 1 ⟨[(0, (.tmp 35))]⟩, none, false⟩,
   ⟨some 37, .call ⟨.builtin .append, ⟨[(.tmp 34), (.tmp 36)]⟩, ⟨[t_L_api_Deed, t_L_api_Deed]⟩⟩, none, false⟩,
   ⟨some 38, .fieldAddr t_api_Disk (.tmp 2) 1, none, false⟩,
   ⟨none, .store t_L_api_Deed (.tmp 38) (.tmp 37), none, false⟩]
  [0, 0, 0, 7, 7, 0, 0, 0])
  (.seq (.reg [⟨some 39, .load t_api_Disk (.tmp 2), none, false⟩,
   ⟨none, .store t_api_Disk (.tmp 4) (.tmp 39), none, false⟩,
   ⟨some 5, .assign (.const (.int .i64 0)), none, false⟩])
  .ret)))))))
theorem k_file_Do : FnOk Try.prog f_file_Do 40 [.cell 4 t_api_Disk, .tmp 5] c_file_Do := ⟨_, _, Try.func42, by kernel_rfl, rfl, Try.ntmps42, rfl, by kernel_rfl⟩

def c_louperef23_Do : LC :=
  (.seq (.reg [⟨some 2, .box t_api_Disk (.tmp 0), none, false⟩,
   ⟨some 3, .box t_api_Deed (.tmp 1), none, false⟩,
   ⟨some 4, .alloc t_api_Disk, none, false⟩,
   ⟨some 5, .assign (.const (.int .i64 0)), none, false⟩])
  (.seq (.seq (.reg [⟨some 8, .load t_api_Deed (.tmp 3), none, false⟩,
   ⟨some 9, .call ⟨.value (.func f_louperef23_may), ⟨[(.tmp 8)]⟩, ⟨[t_api_Deed]⟩⟩, none, false⟩,
   ⟨some 10, .unOp .not t_bool (.tmp 9), none, false⟩])
  (.cond (.tmp 10)
   (.seq (.reg [⟨some 11, .load t_api_Disk (.tmp 2), none, false⟩,
    ⟨none, .store t_api_Disk (.tmp 4) (.tmp 11), none, false⟩,
    ⟨some 5, .assign (.const (.int .i64 4)), none, false⟩])
   .ret)
   .skip))
  (.seq (.reg [⟨some 13, .load t_api_Disk (.tmp 2), none, false⟩,
   ⟨some 14, .fieldAddr t_api_Deed (.tmp 3) 1, none, false⟩,
   ⟨some 15, .load t_string (.tmp 14), none, false⟩,
   ⟨some 16, .call ⟨.value (.func f_louperef23_See), ⟨[(.tmp 13), (.tmp 15)]⟩, ⟨[t_api_Disk, t_string]⟩⟩, none, false⟩,
   ⟨some 12, .move (.tmp 16), none, false⟩,
   ⟨some 17, .extract (.tmp 12) 0, none, false⟩,
   ⟨some 18, .extract (.tmp 12) 1, none, false⟩,
   ⟨some 6, .assign (.tmp 17), none, false⟩,
   ⟨some 7, .assign (.tmp 18), none, false⟩])
  (.seq (.seq (.reg [⟨some 19, .load t_api_Deed (.tmp 3), none, false⟩,
   ⟨some 20, .call ⟨.value (.func f_louperef23_needs), ⟨[(.tmp 19)]⟩, ⟨[t_api_Deed]⟩⟩, none, false⟩,
   ⟨some 21, .move (.tmp 20), none, false⟩,
   ⟨some 22, .move (.tmp 7), some (some 21, true), false⟩,
   ⟨some 23, .unOp .not t_bool (.tmp 22), some (some 21, true), false⟩,
   ⟨some 24, .pick (.tmp 21) (.tmp 23) (.const (.bool false)), none, false⟩])
  (.cond (.tmp 24)
   (.seq (.reg [⟨some 25, .load t_api_Disk (.tmp 2), none, false⟩,
    ⟨none, .store t_api_Disk (.tmp 4) (.tmp 25), none, false⟩,
    ⟨some 5, .assign (.const (.int .i64 6)), none, false⟩])
   .ret)
   .skip))
  (.seq (.seq (.reg [⟨some 26, .fieldAddr t_api_Deed (.tmp 3) 0, none, false⟩,
   ⟨some 27, .load t_int (.tmp 26), none, false⟩,
   ⟨some 28, .binOp .eql t_int (.tmp 27) (.const (.int .i64 4)) t_int, none, false⟩])
  (.cond (.tmp 28)
   (.seq (.reg [⟨some 29, .load t_api_Disk (.tmp 2), none, false⟩,
    ⟨some 30, .call ⟨.value (.func f_louperef23_Seen), ⟨[(.tmp 29)]⟩, ⟨[t_api_Disk]⟩⟩, none, false⟩,
    ⟨some 31, .build t_api_Disk ⟨[(0, (.tmp 30))]⟩, none, false⟩,
    ⟨none, .store t_api_Disk (.tmp 4) (.tmp 31), none, false⟩,
    ⟨some 5, .assign (.const (.int .i64 0)), none, false⟩])
   .ret)
   .skip))
  (.seq (.draw [⟨some 32, .fieldAddr t_api_Disk (.tmp 2) 0, none, false⟩,
   ⟨some 33, .load t_L_api_File (.tmp 32), none, false⟩,
   ⟨some 34, .buildSlice t_L_api_Deed 0 ⟨[]⟩, none, true⟩,
   ⟨some 35, .fieldAddr t_api_Disk (.tmp 2) 1, none, false⟩,
   ⟨some 36, .load t_L_api_Deed (.tmp 35), none, false⟩,
   ⟨some 37, .call ⟨.builtin .append, ⟨[(.tmp 34), (.tmp 36)]⟩, ⟨[t_L_api_Deed, t_L_api_Deed]⟩⟩, none, false⟩,
   ⟨some 38, .load t_api_Deed (.tmp 3), none, false⟩,
   ⟨some 39, .buildSlice t_L_api_Deed 1 ⟨[(0, (.tmp 38))]⟩, none, false⟩,
   ⟨some 40, .call ⟨.builtin .append, ⟨[(.tmp 37), (.tmp 39)]⟩, ⟨[t_L_api_Deed, t_L_api_Deed]⟩⟩, none, false⟩,
   ⟨some 41, .build t_api_Disk ⟨[(0, (.tmp 33)), (1, (.tmp 40))]⟩, none, false⟩,
   ⟨none, .store t_api_Disk (.tmp 4) (.tmp 41), none, false⟩,
   ⟨some 5, .assign (.const (.int .i64 0)), none, false⟩]
  [0, 0, 3, 7, 7, 3, 63, 63, 3, 0, 0, 0])
  .ret))))))
theorem k_louperef23_Do : FnOk Try.prog f_louperef23_Do 42 [.cell 4 t_api_Disk, .tmp 5] c_louperef23_Do := ⟨_, _, Try.func43, by kernel_rfl, rfl, Try.ntmps43, rfl, by kernel_rfl⟩

def c_file_Crash : LC :=
  (.seq (.reg [⟨some 2, .box t_api_Disk (.tmp 0), none, false⟩,
   ⟨some 4, .alloc t_api_Disk, none, false⟩])
  (.seq (.reg [⟨some 8, .fieldAddr t_api_Disk (.tmp 2) 0, none, false⟩,
   ⟨some 9, .load t_L_api_File (.tmp 8), none, false⟩,
   ⟨some 5, .assign (.tmp 9), none, false⟩])
  (.seq (.seq (.reg [⟨some 10, .fieldAddr t_api_Disk (.tmp 2) 1, none, false⟩,
   ⟨some 11, .load t_L_api_Deed (.tmp 10), none, false⟩,
   ⟨some 12, .move (.tmp 1), none, false⟩,
   ⟨some 13, .call ⟨.builtin .max, ⟨[(.tmp 12), (.const (.int .i64 0))]⟩, ⟨[t_int, t_int]⟩⟩, none, false⟩,
   ⟨some 14, .fieldAddr t_api_Disk (.tmp 2) 1, none, false⟩,
   ⟨some 15, .load t_L_api_Deed (.tmp 14), none, false⟩,
   ⟨some 16, .call ⟨.builtin .len, ⟨[(.tmp 15)]⟩, ⟨[t_L_api_Deed]⟩⟩, none, false⟩,
   ⟨some 17, .call ⟨.builtin .min, ⟨[(.tmp 13), (.tmp 16)]⟩, ⟨[t_int, t_int]⟩⟩, none, false⟩,
   ⟨some 18, .slice t_L_api_Deed (.tmp 11) none (some (.tmp 17)) none, none, false⟩,
   ⟨some 19, .call ⟨.builtin .len, ⟨[(.tmp 18)]⟩, ⟨[t_L_api_Deed]⟩⟩, none, false⟩,
   ⟨some 20, .move (.const (.int .i64 0)), none, false⟩])
  (.block 0 (.loop [false, false, false, false, true, true, false, false, false, false, false, false, false, false, false, false, false, false, true, true, true, false, false, false, false, false, false, false, false, false, false, false, false] (some (1, 2))
   (.seq (.reg [⟨some 21, .binOp .lss t_int (.tmp 20) (.tmp 19) t_int, none, false⟩])
    (.seq (.cond (.tmp 21)
     .skip
     (.exit 0))
    (.seq (.block 1 (.seq (.reg [⟨some 22, .indexAddr t_L_api_Deed (.tmp 18) (.tmp 20), none, false⟩,
      ⟨some 23, .load t_api_Deed (.tmp 22), none, false⟩,
      ⟨some 7, .alloc t_api_Deed, none, false⟩,
      ⟨none, .store t_api_Deed (.tmp 7) (.tmp 23), none, false⟩])
     (.reg [⟨some 25, .move (.tmp 5), none, false⟩,
      ⟨some 26, .load t_api_Deed (.tmp 7), none, false⟩,
      ⟨some 27, .call ⟨.value (.func f_file_done), ⟨[(.tmp 25), (.tmp 26)]⟩, ⟨[t_L_api_File, t_api_Deed]⟩⟩, none, false⟩,
      ⟨some 24, .move (.tmp 27), none, false⟩,
      ⟨some 28, .extract (.tmp 24) 0, none, false⟩,
      ⟨some 29, .extract (.tmp 24) 1, none, false⟩,
      ⟨some 5, .assign (.tmp 28), none, false⟩])))
    (.reg [⟨some 30, .binOp .add t_int (.tmp 20) (.const (.int .i64 1)) t_int, none, false⟩,
     ⟨some 20, .move (.tmp 30), none, false⟩])))))))
  (.seq (.reg [⟨some 31, .move (.tmp 5), none, false⟩,
   ⟨some 32, .build t_api_Disk ⟨[(0, (.tmp 31))]⟩, none, false⟩,
   ⟨none, .store t_api_Disk (.tmp 4) (.tmp 32), none, false⟩])
  .ret))))
theorem k_file_Crash : FnOk Try.prog f_file_Crash 33 [.cell 4 t_api_Disk] c_file_Crash := ⟨_, _, Try.func44, by kernel_rfl, rfl, Try.ntmps44, rfl, by kernel_rfl⟩

def c_louperef23_Crash : LC :=
  (.seq (.reg [⟨some 2, .box t_api_Disk (.tmp 0), none, false⟩,
   ⟨some 4, .alloc t_api_Disk, none, false⟩])
  (.seq (.reg [⟨some 7, .fieldAddr t_api_Disk (.tmp 2) 0, none, false⟩,
   ⟨some 8, .load t_L_api_File (.tmp 7), none, false⟩,
   ⟨some 5, .assign (.tmp 8), none, false⟩])
  (.seq (.seq (.reg [⟨some 6, .assign (.const (.int .i64 0)), none, false⟩])
  (.block 0 (.loop [false, true, true, false, true, true, true, false, false, false, false, false, false, false, false, false, false, false, false, false, false, false, false, false, false, false, false, false, false, false] none
   (.seq (.seq (.reg [⟨some 9, .move (.tmp 6), none, false⟩,
     ⟨some 10, .fieldAddr t_api_Disk (.tmp 2) 1, none, false⟩,
     ⟨some 11, .load t_L_api_Deed (.tmp 10), none, false⟩,
     ⟨some 12, .call ⟨.builtin .len, ⟨[(.tmp 11)]⟩, ⟨[t_L_api_Deed]⟩⟩, none, false⟩,
     ⟨some 13, .binOp .lss t_int (.tmp 9) (.tmp 12) t_int, none, false⟩,
     ⟨some 14, .move (.tmp 13), none, false⟩,
     ⟨some 15, .move (.tmp 6), some (some 14, true), false⟩,
     ⟨some 16, .move (.tmp 1), some (some 14, true), false⟩,
     ⟨some 17, .binOp .lss t_int (.tmp 15) (.tmp 16) t_int, some (some 14, true), false⟩,
     ⟨some 18, .pick (.tmp 14) (.tmp 17) (.const (.bool false)), none, false⟩])
    (.cond (.tmp 18)
     .skip
     (.exit 0)))
    (.seq (.block 1 (.reg [⟨some 21, .move (.tmp 5), none, false⟩,
      ⟨some 22, .fieldAddr t_api_Disk (.tmp 2) 1, none, false⟩,
      ⟨some 23, .load t_L_api_Deed (.tmp 22), none, false⟩,
      ⟨some 24, .move (.tmp 6), none, false⟩,
      ⟨some 25, .indexAddr t_L_api_Deed (.tmp 23) (.tmp 24), none, false⟩,
      ⟨some 26, .load t_api_Deed (.tmp 25), none, false⟩,
      ⟨some 27, .call ⟨.value (.func f_louperef23_done), ⟨[(.tmp 21), (.tmp 26)]⟩, ⟨[t_L_api_File, t_api_Deed]⟩⟩, none, false⟩,
      ⟨some 5, .assign (.tmp 27), none, false⟩]))
    (.reg [⟨some 19, .move (.tmp 6), none, false⟩,
     ⟨some 20, .binOp .add t_int (.tmp 19) (.const (.int .i64 1)) t_int, none, false⟩,
     ⟨some 6, .assign (.tmp 20), none, false⟩]))))))
  (.seq (.reg [⟨some 28, .move (.tmp 5), none, false⟩,
   ⟨some 29, .build t_api_Disk ⟨[(0, (.tmp 28))]⟩, none, false⟩,
   ⟨none, .store t_api_Disk (.tmp 4) (.tmp 29), none, false⟩])
  .ret))))
theorem k_louperef23_Crash : FnOk Try.prog f_louperef23_Crash 30 [.cell 4 t_api_Disk] c_louperef23_Crash := ⟨_, _, Try.func45, by kernel_rfl, rfl, Try.ntmps45, rfl, by kernel_rfl⟩

def c__loupelaw23_SaveIn__given : LC :=
  (.seq (.reg [⟨some 1, .box t_loupelaw23_SaveIn (.tmp 0), none, false⟩,
   ⟨some 2, .assign (.const (.bool false)), none, false⟩])
  (.seq (.weak (.reg [⟨some 3, .fieldAddr t_loupelaw23_SaveIn (.tmp 1) 0, none, false⟩,
   ⟨some 4, .load t_api_Disk (.tmp 3), none, false⟩,
   ⟨some 5, .call ⟨.value (.func f_louperef23_Few), ⟨[(.tmp 4)]⟩, ⟨[t_api_Disk]⟩⟩, none, false⟩,
   ⟨some 6, .move (.tmp 5), none, false⟩,
   ⟨some 7, .fieldAddr t_loupelaw23_SaveIn (.tmp 1) 1, some (some 6, true), false⟩,
   ⟨some 8, .load t_string (.tmp 7), some (some 6, true), false⟩,
   ⟨some 9, .call ⟨.builtin .len, ⟨[(.tmp 8)]⟩, ⟨[t_string]⟩⟩, some (some 6, true), false⟩,
   ⟨some 10, .binOp .leq t_int (.tmp 9) (.const (.int .i64 100)) t_int, some (some 6, true), false⟩,
   ⟨some 11, .pick (.tmp 6) (.tmp 10) (.const (.bool false)), none, false⟩,
   ⟨some 12, .move (.tmp 11), none, false⟩,
   ⟨some 13, .fieldAddr t_loupelaw23_SaveIn (.tmp 1) 2, some (some 12, true), false⟩,
   ⟨some 14, .load t_string (.tmp 13), some (some 12, true), false⟩,
   ⟨some 15, .call ⟨.builtin .len, ⟨[(.tmp 14)]⟩, ⟨[t_string]⟩⟩, some (some 12, true), false⟩,
   ⟨some 16, .binOp .leq t_int (.tmp 15) (.const (.int .i64 2000)) t_int, some (some 12, true), false⟩,
   ⟨some 17, .pick (.tmp 12) (.tmp 16) (.const (.bool false)), none, false⟩,
   ⟨some 18, .move (.tmp 17), none, false⟩,
   ⟨some 19, .fieldAddr t_loupelaw23_SaveIn (.tmp 1) 5, some (some 18, true), false⟩,
   ⟨some 20, .load t_string (.tmp 19), some (some 18, true), false⟩,
   ⟨some 21, .call ⟨.builtin .len, ⟨[(.tmp 20)]⟩, ⟨[t_string]⟩⟩, some (some 18, true), false⟩,
   ⟨some 22, .binOp .leq t_int (.tmp 21) (.const (.int .i64 100)) t_int, some (some 18, true), false⟩,
   ⟨some 23, .pick (.tmp 18) (.tmp 22) (.const (.bool false)), none, false⟩,
   ⟨some 2, .assign (.tmp 23), none, false⟩]))
  .ret))
theorem k__loupelaw23_SaveIn__given : FnOk Try.prog f__loupelaw23_SaveIn__given 24 [.tmp 2] c__loupelaw23_SaveIn__given := ⟨_, _, Try.func46, by kernel_rfl, rfl, Try.ntmps46, rfl, by kernel_rfl⟩

def c_file_Save : LC :=
  (.seq (.reg [⟨some 4, .box t_api_Disk (.tmp 0), none, false⟩,
   ⟨some 8, .alloc t_api_Disk, none, false⟩,
   ⟨some 9, .assign (.const (.int .i64 0)), none, false⟩,
   ⟨some 10, .assign (.const (.int .i64 0)), none, false⟩])
  (.seq (.seq (.reg [⟨some 14, .move (.tmp 1), none, false⟩,
   ⟨some 15, .binOp .eql t_string (.tmp 14) (.const (.string ⟨⟨[]⟩⟩)) t_string, none, false⟩,
   ⟨some 16, .move (.tmp 15), none, false⟩,
   ⟨some 17, .move (.tmp 1), some (some 16, false), false⟩,
   ⟨some 18, .call ⟨.builtin .len, ⟨[(.tmp 17)]⟩, ⟨[t_string]⟩⟩, some (some 16, false), false⟩,
   ⟨some 19, .binOp .gtr t_int (.tmp 18) (.const (.int .i64 36)) t_int, some (some 16, false), false⟩,
   ⟨some 20, .pick (.tmp 16) (.const (.bool true)) (.tmp 19), none, false⟩])
  (.cond (.tmp 20)
   (.seq (.reg [⟨some 21, .load t_api_Disk (.tmp 4), none, false⟩,
    ⟨none, .store t_api_Disk (.tmp 8) (.tmp 21), none, false⟩,
    ⟨some 9, .assign (.const (.int .i64 0)), none, false⟩,
    ⟨some 10, .assign (.const (.int .i64 4)), none, false⟩])
   .ret)
   .skip))
  (.seq (.reg [⟨some 22, .move (.tmp 3), none, false⟩,
   ⟨some 23, .build t_file_saver ⟨[(1, (.tmp 22))]⟩, none, false⟩,
   ⟨some 24, .box t_file_saver (.tmp 23), none, false⟩,
   ⟨some 11, .assign (.tmp 24), none, false⟩])
  (.seq (.seq (.reg [⟨some 25, .move (.tmp 1), none, false⟩,
   ⟨some 26, .move (.tmp 2), none, false⟩,
   ⟨some 27, .call ⟨.value (.func f_file_Plan), ⟨[(.tmp 25), (.tmp 26)]⟩, ⟨[t_string, t_string]⟩⟩, none, false⟩,
   ⟨some 28, .call ⟨.builtin .len, ⟨[(.tmp 27)]⟩, ⟨[t_L_api_Deed]⟩⟩, none, false⟩,
   ⟨some 29, .move (.const (.int .i64 0)), none, false⟩])
  (.block 0 (.loop [false, false, false, false, true, false, false, false, true, false, false, true, false, false, false, false, false, false, false, false, false, false, false, false, false, false, false, true, true, true, false, false, false, false, false, false, false, false, false, false, false, false, false, false, false, false, false, false, false, false, false, false, false] (some (1, 3))
   (.seq (.reg [⟨some 30, .binOp .lss t_int (.tmp 29) (.tmp 28) t_int, none, false⟩])
    (.seq (.cond (.tmp 30)
     .skip
     (.exit 0))
    (.seq (.block 1 (.seq (.reg [⟨some 31, .indexAddr t_L_api_Deed (.tmp 27) (.tmp 29), none, false⟩,
      ⟨some 32, .load t_api_Deed (.tmp 31), none, false⟩,
      ⟨some 13, .alloc t_api_Deed, none, false⟩,
      ⟨none, .store t_api_Deed (.tmp 13) (.tmp 32), none, false⟩])
     (.seq (.seq (.reg [⟨some 33, .move (.tmp 11), none, false⟩,
      ⟨some 34, .call ⟨.value (.func f__P_file_saver__next), ⟨[(.tmp 33)]⟩, ⟨[t_P_file_saver]⟩⟩, none, false⟩,
      ⟨some 35, .unOp .not t_bool (.tmp 34), none, false⟩])
     (.cond (.tmp 35)
      (.seq (.draw [⟨some 36, .load t_api_Disk (.tmp 4), none, false⟩,
       ⟨some 37, .move (.tmp 11), none, false⟩,
       ⟨some 38, .nilCheck (.tmp 37), none, false⟩,
       ⟨some 39, .fieldAddr t_file_saver (.tmp 38) 0, none, false⟩,
       ⟨some 40, .call ⟨.value (.func f__P_sync_atomic_Int64__Load), ⟨[(.tmp 39)]⟩, ⟨[t_atomic_Int64]⟩⟩, none, false⟩,
       ⟨none, .store t_api_Disk (.tmp 8) (.tmp 36), none, false⟩,
       ⟨some 9, .assign (.tmp 40), none, false⟩,
       ⟨some 10, .assign (.const (.int .i64 10)), none, false⟩]
      [0, 1, 1, 1, 1, 0, 0, 0])
      .ret)
      .skip))
     (.reg [⟨some 42, .load t_api_Disk (.tmp 4), none, false⟩,
      ⟨some 43, .load t_api_Deed (.tmp 13), none, false⟩,
      ⟨some 44, .call ⟨.value (.func f_file_Do), ⟨[(.tmp 42), (.tmp 43)]⟩, ⟨[t_api_Disk, t_api_Deed]⟩⟩, none, false⟩,
      ⟨some 41, .move (.tmp 44), none, false⟩,
      ⟨some 45, .extract (.tmp 41) 0, none, false⟩,
      ⟨some 46, .extract (.tmp 41) 1, none, false⟩,
      ⟨none, .store t_api_Disk (.tmp 4) (.tmp 45), none, false⟩]))))
    (.reg [⟨some 47, .binOp .add t_int (.tmp 29) (.const (.int .i64 1)) t_int, none, false⟩,
     ⟨some 29, .move (.tmp 47), none, false⟩])))))))
  (.seq (.draw [⟨some 48, .load t_api_Disk (.tmp 4), none, false⟩,
   ⟨some 49, .move (.tmp 11), none, false⟩,
   ⟨some 50, .nilCheck (.tmp 49), none, false⟩,
   ⟨some 51, .fieldAddr t_file_saver (.tmp 50) 0, none, false⟩,
   ⟨some 52, .call ⟨.value (.func f__P_sync_atomic_Int64__Load), ⟨[(.tmp 51)]⟩, ⟨[t_atomic_Int64]⟩⟩, none, false⟩,
   ⟨none, .store t_api_Disk (.tmp 8) (.tmp 48), none, false⟩,
   ⟨some 9, .assign (.tmp 52), none, false⟩,
   ⟨some 10, .assign (.const (.int .i64 0)), none, false⟩]
  [0, 1, 1, 1, 1, 0, 0, 0])
  .ret)))))
theorem k_file_Save : FnOk Try.prog f_file_Save 53 [.cell 8 t_api_Disk, .tmp 9, .tmp 10] c_file_Save := ⟨_, _, Try.func47, by kernel_rfl, rfl, Try.ntmps47, rfl, by kernel_rfl⟩

def c_louperef23_Save : LC :=
  (.seq (.reg [⟨some 4, .box t_api_Disk (.tmp 0), none, false⟩,
   ⟨some 8, .alloc t_api_Disk, none, false⟩,
   ⟨some 9, .assign (.const (.int .i64 0)), none, false⟩,
   ⟨some 10, .assign (.const (.int .i64 0)), none, false⟩])
  (.seq (.seq (.reg [⟨some 15, .move (.tmp 1), none, false⟩,
   ⟨some 16, .call ⟨.builtin .len, ⟨[(.tmp 15)]⟩, ⟨[t_string]⟩⟩, none, false⟩,
   ⟨some 17, .binOp .lss t_int (.tmp 16) (.const (.int .i64 1)) t_int, none, false⟩,
   ⟨some 18, .move (.tmp 17), none, false⟩,
   ⟨some 19, .move (.tmp 1), some (some 18, false), false⟩,
   ⟨some 20, .call ⟨.builtin .len, ⟨[(.tmp 19)]⟩, ⟨[t_string]⟩⟩, some (some 18, false), false⟩,
   ⟨some 21, .binOp .gtr t_int (.tmp 20) (.const (.int .i64 36)) t_int, some (some 18, false), false⟩,
   ⟨some 22, .pick (.tmp 18) (.const (.bool true)) (.tmp 21), none, false⟩])
  (.cond (.tmp 22)
   (.seq (.reg [⟨some 23, .load t_api_Disk (.tmp 4), none, false⟩,
    ⟨none, .store t_api_Disk (.tmp 8) (.tmp 23), none, false⟩,
    ⟨some 9, .assign (.const (.int .i64 0)), none, false⟩,
    ⟨some 10, .assign (.const (.int .i64 4)), none, false⟩])
   .ret)
   .skip))
  (.seq (.reg [⟨some 24, .move (.tmp 1), none, false⟩,
   ⟨some 25, .move (.tmp 2), none, false⟩,
   ⟨some 26, .call ⟨.value (.func f_louperef23_Plan), ⟨[(.tmp 24), (.tmp 25)]⟩, ⟨[t_string, t_string]⟩⟩, none, false⟩,
   ⟨some 11, .assign (.tmp 26), none, false⟩])
  (.seq (.seq (.reg [⟨some 12, .assign (.const (.int .i64 0)), none, false⟩])
  (.block 0 (.loop [false, false, false, true, true, false, false, false, true, false, false, true, true, false, false, false, false, false, false, false, false, false, false, false, false, false, false, false, false, false, false, false, false, false, false, false, false, false, false, false, false, false, false, false, false, false, false, false, false, false, false, false, false, false, false] (some (1, 2))
   (.seq (.seq (.reg [⟨some 27, .move (.tmp 12), none, false⟩,
     ⟨some 28, .move (.tmp 11), none, false⟩,
     ⟨some 29, .call ⟨.builtin .len, ⟨[(.tmp 28)]⟩, ⟨[t_L_api_Deed]⟩⟩, none, false⟩,
     ⟨some 30, .binOp .lss t_int (.tmp 27) (.tmp 29) t_int, none, false⟩])
    (.cond (.tmp 30)
     .skip
     (.exit 0)))
    (.seq (.block 1 (.seq (.seq (.reg [⟨some 33, .move (.tmp 3), none, false⟩,
      ⟨some 34, .binOp .geq t_int (.tmp 33) (.const (.int .i64 0)) t_int, none, false⟩,
      ⟨some 35, .move (.tmp 34), none, false⟩,
      ⟨some 36, .move (.tmp 12), some (some 35, true), false⟩,
      ⟨some 37, .move (.tmp 3), some (some 35, true), false⟩,
      ⟨some 38, .binOp .geq t_int (.tmp 36) (.tmp 37) t_int, some (some 35, true), false⟩,
      ⟨some 39, .pick (.tmp 35) (.tmp 38) (.const (.bool false)), none, false⟩])
     (.cond (.tmp 39)
      (.seq (.reg [⟨some 40, .load t_api_Disk (.tmp 4), none, false⟩,
       ⟨some 41, .move (.tmp 12), none, false⟩,
       ⟨none, .store t_api_Disk (.tmp 8) (.tmp 40), none, false⟩,
       ⟨some 9, .assign (.tmp 41), none, false⟩,
       ⟨some 10, .assign (.const (.int .i64 10)), none, false⟩])
      .ret)
      .skip))
     (.seq (.draw [⟨some 43, .load t_api_Disk (.tmp 4), none, false⟩,
      ⟨some 44, .move (.tmp 11), none, false⟩,
      ⟨some 45, .move (.tmp 12), none, false⟩,
      ⟨some 46, .indexAddr t_L_api_Deed (.tmp 44) (.tmp 45), none, false⟩,
      ⟨some 47, .load t_api_Deed (.tmp 46), none, false⟩,
      ⟨some 48, .call ⟨.value (.func f_louperef23_Do), ⟨[(.tmp 43), (.tmp 47)]⟩, ⟨[t_api_Disk, t_api_Deed]⟩⟩, none, false⟩,
      ⟨some 42, .move (.tmp 48), none, false⟩,
      ⟨some 49, .extract (.tmp 42) 0, none, false⟩,
      ⟨some 50, .extract (.tmp 42) 1, none, false⟩,
      ⟨some 13, .alloc t_api_Disk, none, false⟩,
      ⟨none, .store t_api_Disk (.tmp 13) (.tmp 49), none, false⟩,
      ⟨some 14, .assign (.tmp 50), none, false⟩]
     [0, 1, 3, 1, 1, 0, 0, 0, 128, 511, 256, 0])
     (.reg [⟨some 51, .load t_api_Disk (.tmp 13), none, false⟩,
      ⟨none, .store t_api_Disk (.tmp 4) (.tmp 51), none, false⟩]))))
    (.reg [⟨some 31, .move (.tmp 12), none, false⟩,
     ⟨some 32, .binOp .add t_int (.tmp 31) (.const (.int .i64 1)) t_int, none, false⟩,
     ⟨some 12, .assign (.tmp 32), none, false⟩]))))))
  (.seq (.reg [⟨some 52, .load t_api_Disk (.tmp 4), none, false⟩,
   ⟨some 53, .move (.tmp 11), none, false⟩,
   ⟨some 54, .call ⟨.builtin .len, ⟨[(.tmp 53)]⟩, ⟨[t_L_api_Deed]⟩⟩, none, false⟩,
   ⟨none, .store t_api_Disk (.tmp 8) (.tmp 52), none, false⟩,
   ⟨some 9, .assign (.tmp 54), none, false⟩,
   ⟨some 10, .assign (.const (.int .i64 0)), none, false⟩])
  .ret)))))
theorem k_louperef23_Save : FnOk Try.prog f_louperef23_Save 55 [.cell 8 t_api_Disk, .tmp 9, .tmp 10] c_louperef23_Save := ⟨_, _, Try.func48, by kernel_rfl, rfl, Try.ntmps48, rfl, by kernel_rfl⟩

def c_file_Plan : LC :=
  (.seq (.reg [⟨some 4, .assign (.const (.slice none 0 0)), none, false⟩])
  (.seq (.reg [⟨some 8, .move (.tmp 0), none, false⟩,
   ⟨some 9, .binOp .add t_string (.tmp 8) (.const (.string ⟨⟨[46, 116, 109, 112]⟩⟩)) t_string, none, false⟩,
   ⟨some 5, .assign (.tmp 9), none, false⟩])
  (.seq (.reg [⟨some 10, .move (.tmp 5), none, false⟩,
   ⟨some 11, .build t_api_Deed ⟨[(0, (.const (.int .i64 0))), (1, (.tmp 10))]⟩, none, false⟩,
   ⟨some 12, .buildSlice t_L_api_Deed 1 ⟨[(0, (.tmp 11))]⟩, none, true⟩,
   ⟨some 6, .assign (.tmp 12), none, false⟩])
  (.seq (.block 0 (.loop [true, true, false, false, false, true, true, false, false, false, false, false, false, false, false, false, false, false, false, false, false, false, false, false, false, false, false, false, false, false, false, false, false, false, false, false, false, false, false, false] none
   (.seq (.seq (.reg [⟨some 13, .move (.tmp 1), none, false⟩,
     ⟨some 14, .call ⟨.builtin .len, ⟨[(.tmp 13)]⟩, ⟨[t_string]⟩⟩, none, false⟩,
     ⟨some 15, .binOp .gtr t_int (.tmp 14) (.const (.int .i64 0)) t_int, none, false⟩])
    (.cond (.tmp 15)
     .skip
     (.exit 0)))
    (.block 1 (.seq (.reg [⟨some 16, .move (.tmp 1), none, false⟩,
      ⟨some 17, .call ⟨.builtin .len, ⟨[(.tmp 16)]⟩, ⟨[t_string]⟩⟩, none, false⟩,
      ⟨some 18, .call ⟨.builtin .min, ⟨[(.tmp 17), (.const (.int .i64 64))]⟩, ⟨[t_int, t_int]⟩⟩, none, false⟩,
      ⟨some 7, .assign (.tmp 18), none, false⟩])
     (.seq (.reg [⟨some 19, .move (.tmp 6), none, false⟩,
      ⟨some 20, .move (.tmp 5), none, false⟩,
      ⟨some 21, .move (.tmp 1), none, false⟩,
      ⟨some 22, .move (.tmp 7), none, false⟩,
      ⟨some 23, .slice t_string (.tmp 21) none (some (.tmp 22)) none, none, false⟩,
      ⟨some 24, .build t_api_Deed ⟨[(0, (.const (.int .i64 1))), (1, (.tmp 20)), (2, (.tmp 23))]⟩, none, false⟩,
      ⟨some 25, .buildSlice t_L_api_Deed 1 ⟨[(0, (.tmp 24))]⟩, none, false⟩,
      ⟨some 26, .call ⟨.builtin .append, ⟨[(.tmp 19), (.tmp 25)]⟩, ⟨[t_L_api_Deed, t_L_api_Deed]⟩⟩, none, false⟩,
      ⟨some 6, .assign (.tmp 26), none, false⟩])
     (.reg [⟨some 27, .move (.tmp 1), none, false⟩,
      ⟨some 28, .move (.tmp 1), none, false⟩,
      ⟨some 29, .move (.tmp 7), none, false⟩,
      ⟨some 30, .slice t_string (.tmp 28) none (some (.tmp 29)) none, none, false⟩,
      ⟨some 31, .call ⟨.value (.func f_strings_TrimPrefix), ⟨[(.tmp 27), (.tmp 30)]⟩, ⟨[t_string, t_string]⟩⟩, none, false⟩,
      ⟨some 1, .assign (.tmp 31), none, false⟩])))))))
  (.seq (.reg [⟨some 32, .move (.tmp 6), none, false⟩,
   ⟨some 33, .build t_api_Deed ⟨[(0, (.const (.int .i64 4)))]⟩, none, false⟩,
   ⟨some 34, .move (.tmp 5), none, false⟩,
   ⟨some 35, .move (.tmp 0), none, false⟩,
   ⟨some 36, .build t_api_Deed ⟨[(0, (.const (.int .i64 2))), (1, (.tmp 34)), (2, (.tmp 35))]⟩, none, false⟩,
   ⟨some 37, .build t_api_Deed ⟨[(0, (.const (.int .i64 4)))]⟩, none, false⟩,
   ⟨some 38, .buildSlice t_L_api_Deed 3 ⟨[(0, (.tmp 33)), (1, (.tmp 36)), (2, (.tmp 37))]⟩, none, false⟩,
   ⟨some 39, .call ⟨.builtin .append, ⟨[(.tmp 32), (.tmp 38)]⟩, ⟨[t_L_api_Deed, t_L_api_Deed]⟩⟩, none, false⟩,
   ⟨some 4, .assign (.tmp 39), none, false⟩])
  .ret)))))
theorem k_file_Plan : FnOk Try.prog f_file_Plan 40 [.tmp 4] c_file_Plan := ⟨_, _, Try.func49, by kernel_rfl, rfl, Try.ntmps49, rfl, by kernel_rfl⟩

def c_louperef23_Plan : LC :=
  (.seq (.reg [⟨some 4, .assign (.const (.slice none 0 0)), none, false⟩])
  (.seq (.reg [⟨some 9, .move (.tmp 0), none, false⟩,
   ⟨some 10, .binOp .add t_string (.tmp 9) (.const (.string ⟨⟨[46, 116, 109, 112]⟩⟩)) t_string, none, false⟩,
   ⟨some 5, .assign (.tmp 10), none, false⟩])
  (.seq (.reg [⟨some 11, .move (.tmp 5), none, false⟩,
   ⟨some 12, .build t_api_Deed ⟨[(0, (.const (.int .i64 0))), (1, (.tmp 11))]⟩, none, false⟩,
   ⟨some 13, .buildSlice t_L_api_Deed 1 ⟨[(0, (.tmp 12))]⟩, none, true⟩,
   ⟨some 6, .assign (.tmp 13), none, false⟩])
  (.seq (.block 0 (.loop [true, true, false, false, false, true, true, false, false, false, false, false, false, false, false, false, false, false, false, false, false, false, false, false, false, false, false, false, false, false, false, false, false, false, false, false, false, false, false, false] none
   (.seq (.seq (.reg [⟨some 14, .move (.tmp 1), none, false⟩,
     ⟨some 15, .call ⟨.builtin .len, ⟨[(.tmp 14)]⟩, ⟨[t_string]⟩⟩, none, false⟩,
     ⟨some 16, .binOp .gtr t_int (.tmp 15) (.const (.int .i64 0)) t_int, none, false⟩])
    (.cond (.tmp 16)
     .skip
     (.exit 0)))
    (.block 1 (.seq (.reg [⟨some 17, .move (.tmp 1), none, false⟩,
      ⟨some 18, .call ⟨.builtin .len, ⟨[(.tmp 17)]⟩, ⟨[t_string]⟩⟩, none, false⟩,
      ⟨some 19, .call ⟨.builtin .min, ⟨[(.tmp 18), (.const (.int .i64 64))]⟩, ⟨[t_int, t_int]⟩⟩, none, false⟩,
      ⟨some 7, .assign (.tmp 19), none, false⟩])
     (.seq (.reg [⟨some 20, .move (.tmp 6), none, false⟩,
      ⟨some 21, .move (.tmp 5), none, false⟩,
      ⟨some 22, .move (.tmp 1), none, false⟩,
      ⟨some 23, .move (.tmp 7), none, false⟩,
      ⟨some 24, .slice t_string (.tmp 22) none (some (.tmp 23)) none, none, false⟩,
      ⟨some 25, .build t_api_Deed ⟨[(0, (.const (.int .i64 1))), (1, (.tmp 21)), (2, (.tmp 24))]⟩, none, false⟩,
      ⟨some 26, .buildSlice t_L_api_Deed 1 ⟨[(0, (.tmp 25))]⟩, none, false⟩,
      ⟨some 27, .call ⟨.builtin .append, ⟨[(.tmp 20), (.tmp 26)]⟩, ⟨[t_L_api_Deed, t_L_api_Deed]⟩⟩, none, false⟩,
      ⟨some 6, .assign (.tmp 27), none, false⟩])
     (.reg [⟨some 28, .move (.tmp 1), none, false⟩,
      ⟨some 29, .move (.tmp 7), none, false⟩,
      ⟨some 30, .slice t_string (.tmp 28) (some (.tmp 29)) none none, none, false⟩,
      ⟨some 1, .assign (.tmp 30), none, false⟩])))))))
  (.seq (.reg [⟨some 31, .build t_api_Deed ⟨[(0, (.const (.int .i64 4)))]⟩, none, false⟩,
   ⟨some 8, .alloc t_api_Deed, none, false⟩,
   ⟨none, .store t_api_Deed (.tmp 8) (.tmp 31), none, false⟩])
  (.seq (.reg [⟨some 32, .move (.tmp 6), none, false⟩,
   ⟨some 33, .load t_api_Deed (.tmp 8), none, false⟩,
   ⟨some 34, .move (.tmp 5), none, false⟩,
   ⟨some 35, .move (.tmp 0), none, false⟩,
   ⟨some 36, .build t_api_Deed ⟨[(0, (.const (.int .i64 2))), (1, (.tmp 34)), (2, (.tmp 35))]⟩, none, false⟩,
   ⟨some 37, .load t_api_Deed (.tmp 8), none, false⟩,
   ⟨some 38, .buildSlice t_L_api_Deed 3 ⟨[(0, (.tmp 33)), (1, (.tmp 36)), (2, (.tmp 37))]⟩, none, false⟩,
   ⟨some 39, .call ⟨.builtin .append, ⟨[(.tmp 32), (.tmp 38)]⟩, ⟨[t_L_api_Deed, t_L_api_Deed]⟩⟩, none, false⟩,
   ⟨some 4, .assign (.tmp 39), none, false⟩])
  .ret))))))
theorem k_louperef23_Plan : FnOk Try.prog f_louperef23_Plan 40 [.tmp 4] c_louperef23_Plan := ⟨_, _, Try.func50, by kernel_rfl, rfl, Try.ntmps50, rfl, by kernel_rfl⟩

def c_louperef23_name : LC :=
  (.seq (.reg [⟨some 2, .assign (.const (.bool false)), none, false⟩])
  (.seq (.reg [⟨some 3, .move (.tmp 0), none, false⟩,
   ⟨some 4, .call ⟨.builtin .len, ⟨[(.tmp 3)]⟩, ⟨[t_string]⟩⟩, none, false⟩,
   ⟨some 5, .binOp .geq t_int (.tmp 4) (.const (.int .i64 1)) t_int, none, false⟩,
   ⟨some 6, .move (.tmp 5), none, false⟩,
   ⟨some 7, .move (.tmp 0), some (some 6, true), false⟩,
   ⟨some 8, .call ⟨.builtin .len, ⟨[(.tmp 7)]⟩, ⟨[t_string]⟩⟩, some (some 6, true), false⟩,
   ⟨some 9, .binOp .leq t_int (.tmp 8) (.const (.int .i64 40)) t_int, some (some 6, true), false⟩,
   ⟨some 10, .pick (.tmp 6) (.tmp 9) (.const (.bool false)), none, false⟩,
   ⟨some 2, .assign (.tmp 10), none, false⟩])
  .ret))
theorem k_louperef23_name : FnOk Try.prog f_louperef23_name 11 [.tmp 2] c_louperef23_name := ⟨_, _, Try.func70, by kernel_rfl, rfl, Try.ntmps70, rfl, by kernel_rfl⟩

def c_louperef23_may : LC :=
  (.seq (.reg [⟨some 1, .box t_api_Deed (.tmp 0), none, false⟩,
   ⟨some 2, .assign (.const (.bool false)), none, false⟩])
  (.seq (.seq (.weak (.reg [⟨some 3, .fieldAddr t_api_Deed (.tmp 1) 0, none, false⟩,
   ⟨some 4, .load t_int (.tmp 3), none, false⟩]))
  (.block 0 (.seq (.seq (.reg [⟨some 6, .binOp .eql t_int (.tmp 4) (.const (.int .i64 0)) t_int, none, false⟩,
    ⟨some 5, .assign (.tmp 6), none, false⟩])
   (.cond (.tmp 5)
    .skip
    (.reg [⟨some 7, .binOp .eql t_int (.tmp 4) (.const (.int .i64 3)) t_int, none, false⟩,
     ⟨some 5, .assign (.tmp 7), none, false⟩])))
   (.cond (.tmp 5)
    (.seq (.reg [⟨some 8, .fieldAddr t_api_Deed (.tmp 1) 1, none, false⟩,
     ⟨some 9, .load t_string (.tmp 8), none, false⟩,
     ⟨some 10, .call ⟨.value (.func f_louperef23_name), ⟨[(.tmp 9)]⟩, ⟨[t_string]⟩⟩, none, false⟩,
     ⟨some 11, .move (.tmp 10), none, false⟩,
     ⟨some 12, .fieldAddr t_api_Deed (.tmp 1) 2, some (some 11, true), false⟩,
     ⟨some 13, .load t_string (.tmp 12), some (some 11, true), false⟩,
     ⟨some 14, .binOp .eql t_string (.tmp 13) (.const (.string ⟨⟨[]⟩⟩)) t_string, some (some 11, true), false⟩,
     ⟨some 15, .pick (.tmp 11) (.tmp 14) (.const (.bool false)), none, false⟩,
     ⟨some 2, .assign (.tmp 15), none, false⟩])
    .ret)
    (.seq (.reg [⟨some 17, .binOp .eql t_int (.tmp 4) (.const (.int .i64 1)) t_int, none, false⟩,
     ⟨some 16, .assign (.tmp 17), none, false⟩])
    (.cond (.tmp 16)
     (.seq (.reg [⟨some 18, .fieldAddr t_api_Deed (.tmp 1) 1, none, false⟩,
      ⟨some 19, .load t_string (.tmp 18), none, false⟩,
      ⟨some 20, .call ⟨.value (.func f_louperef23_name), ⟨[(.tmp 19)]⟩, ⟨[t_string]⟩⟩, none, false⟩,
      ⟨some 2, .assign (.tmp 20), none, false⟩])
     .ret)
     (.seq (.reg [⟨some 22, .binOp .eql t_int (.tmp 4) (.const (.int .i64 2)) t_int, none, false⟩,
      ⟨some 21, .assign (.tmp 22), none, false⟩])
     (.cond (.tmp 21)
      (.seq (.reg [⟨some 23, .fieldAddr t_api_Deed (.tmp 1) 1, none, false⟩,
       ⟨some 24, .load t_string (.tmp 23), none, false⟩,
       ⟨some 25, .call ⟨.value (.func f_louperef23_name), ⟨[(.tmp 24)]⟩, ⟨[t_string]⟩⟩, none, false⟩,
       ⟨some 26, .move (.tmp 25), none, false⟩,
       ⟨some 27, .fieldAddr t_api_Deed (.tmp 1) 2, some (some 26, true), false⟩,
       ⟨some 28, .load t_string (.tmp 27), some (some 26, true), false⟩,
       ⟨some 29, .call ⟨.value (.func f_louperef23_name), ⟨[(.tmp 28)]⟩, ⟨[t_string]⟩⟩, some (some 26, true), false⟩,
       ⟨some 30, .pick (.tmp 26) (.tmp 29) (.const (.bool false)), none, false⟩,
       ⟨some 2, .assign (.tmp 30), none, false⟩])
      .ret)
      (.seq (.reg [⟨some 32, .binOp .eql t_int (.tmp 4) (.const (.int .i64 4)) t_int, none, false⟩,
       ⟨some 31, .assign (.tmp 32), none, false⟩])
      (.cond (.tmp 31)
       (.seq (.reg [⟨some 33, .fieldAddr t_api_Deed (.tmp 1) 1, none, false⟩,
        ⟨some 34, .load t_string (.tmp 33), none, false⟩,
        ⟨some 35, .binOp .eql t_string (.tmp 34) (.const (.string ⟨⟨[]⟩⟩)) t_string, none, false⟩,
        ⟨some 36, .move (.tmp 35), none, false⟩,
        ⟨some 37, .fieldAddr t_api_Deed (.tmp 1) 2, some (some 36, true), false⟩,
        ⟨some 38, .load t_string (.tmp 37), some (some 36, true), false⟩,
        ⟨some 39, .binOp .eql t_string (.tmp 38) (.const (.string ⟨⟨[]⟩⟩)) t_string, some (some 36, true), false⟩,
        ⟨some 40, .pick (.tmp 36) (.tmp 39) (.const (.bool false)), none, false⟩,
        ⟨some 2, .assign (.tmp 40), none, false⟩])
       .ret)
       .skip))))))))))
  (.seq (.reg [⟨some 2, .assign (.const (.bool false)), none, false⟩])
  .ret)))
theorem k_louperef23_may : FnOk Try.prog f_louperef23_may 41 [.tmp 2] c_louperef23_may := ⟨_, _, Try.func71, by kernel_rfl, rfl, Try.ntmps71, rfl, by kernel_rfl⟩

def c_louperef23_needs : LC :=
  (.seq (.reg [⟨some 1, .box t_api_Deed (.tmp 0), none, false⟩,
   ⟨some 2, .assign (.const (.bool false)), none, false⟩])
  (.seq (.weak (.reg [⟨some 3, .fieldAddr t_api_Deed (.tmp 1) 0, none, false⟩,
   ⟨some 4, .load t_int (.tmp 3), none, false⟩,
   ⟨some 5, .binOp .eql t_int (.tmp 4) (.const (.int .i64 1)) t_int, none, false⟩,
   ⟨some 6, .move (.tmp 5), none, false⟩,
   ⟨some 7, .fieldAddr t_api_Deed (.tmp 1) 0, some (some 6, false), false⟩,
   ⟨some 8, .load t_int (.tmp 7), some (some 6, false), false⟩,
   ⟨some 9, .binOp .eql t_int (.tmp 8) (.const (.int .i64 2)) t_int, some (some 6, false), false⟩,
   ⟨some 10, .pick (.tmp 6) (.const (.bool true)) (.tmp 9), none, false⟩,
   ⟨some 11, .move (.tmp 10), none, false⟩,
   ⟨some 12, .fieldAddr t_api_Deed (.tmp 1) 0, some (some 11, false), false⟩,
   ⟨some 13, .load t_int (.tmp 12), some (some 11, false), false⟩,
   ⟨some 14, .binOp .eql t_int (.tmp 13) (.const (.int .i64 3)) t_int, some (some 11, false), false⟩,
   ⟨some 15, .pick (.tmp 11) (.const (.bool true)) (.tmp 14), none, false⟩,
   ⟨some 2, .assign (.tmp 15), none, false⟩]))
  .ret))
theorem k_louperef23_needs : FnOk Try.prog f_louperef23_needs 16 [.tmp 2] c_louperef23_needs := ⟨_, _, Try.func72, by kernel_rfl, rfl, Try.ntmps72, rfl, by kernel_rfl⟩

def c_file_isName : LC :=
  (.seq (.reg [⟨some 2, .assign (.const (.bool false)), none, false⟩])
  (.seq (.reg [⟨some 3, .move (.tmp 0), none, false⟩,
   ⟨some 4, .binOp .neq t_string (.tmp 3) (.const (.string ⟨⟨[]⟩⟩)) t_string, none, false⟩,
   ⟨some 5, .move (.tmp 4), none, false⟩,
   ⟨some 6, .move (.tmp 0), some (some 5, true), false⟩,
   ⟨some 7, .call ⟨.builtin .len, ⟨[(.tmp 6)]⟩, ⟨[t_string]⟩⟩, some (some 5, true), false⟩,
   ⟨some 8, .binOp .leq t_int (.tmp 7) (.const (.int .i64 40)) t_int, some (some 5, true), false⟩,
   ⟨some 9, .pick (.tmp 5) (.tmp 8) (.const (.bool false)), none, false⟩,
   ⟨some 2, .assign (.tmp 9), none, false⟩])
  .ret))
theorem k_file_isName : FnOk Try.prog f_file_isName 10 [.tmp 2] c_file_isName := ⟨_, _, Try.func73, by kernel_rfl, rfl, Try.ntmps73, rfl, by kernel_rfl⟩

def c_file_done : LC :=
  (.seq (.reg [⟨some 3, .box t_api_Deed (.tmp 1), none, false⟩,
   ⟨some 4, .assign (.const (.slice none 0 0)), none, false⟩,
   ⟨some 5, .assign (.const (.bool false)), none, false⟩])
  (.seq (.seq (.weak (.reg [⟨some 9, .load t_api_Deed (.tmp 3), none, false⟩,
   ⟨some 10, .call ⟨.value (.func f_file_may), ⟨[(.tmp 9)]⟩, ⟨[t_api_Deed]⟩⟩, none, false⟩,
   ⟨some 11, .unOp .not t_bool (.tmp 10), none, false⟩]))
  (.cond (.tmp 11)
   (.seq (.reg [⟨some 12, .move (.tmp 0), none, false⟩,
    ⟨some 4, .assign (.tmp 12), none, false⟩,
    ⟨some 5, .assign (.const (.bool false)), none, false⟩])
   .ret)
   .skip))
  (.seq (.reg [⟨some 14, .move (.tmp 0), none, false⟩,
   ⟨some 15, .fieldAddr t_api_Deed (.tmp 3) 1, none, false⟩,
   ⟨some 16, .load t_string (.tmp 15), none, false⟩,
   ⟨some 17, .call ⟨.value (.func f_file_find), ⟨[(.tmp 14), (.tmp 16)]⟩, ⟨[t_L_api_File, t_string]⟩⟩, none, false⟩,
   ⟨some 13, .move (.tmp 17), none, false⟩,
   ⟨some 18, .extract (.tmp 13) 0, none, false⟩,
   ⟨some 19, .extract (.tmp 13) 1, none, false⟩,
   ⟨some 6, .assign (.tmp 18), none, false⟩,
   ⟨some 7, .assign (.tmp 19), none, false⟩])
  (.seq (.seq (.reg [⟨some 20, .fieldAddr t_api_Deed (.tmp 3) 0, none, false⟩,
   ⟨some 21, .load t_int (.tmp 20), none, false⟩])
  (.block 0 (.seq (.reg [⟨some 23, .binOp .eql t_int (.tmp 21) (.const (.int .i64 0)) t_int, none, false⟩,
    ⟨some 22, .assign (.tmp 23), none, false⟩])
   (.cond (.tmp 22)
    (.seq (.reg [⟨some 24, .move (.tmp 0), none, false⟩,
     ⟨some 25, .fieldAddr t_api_Deed (.tmp 3) 1, none, false⟩,
     ⟨some 26, .load t_string (.tmp 25), none, false⟩,
     ⟨some 27, .build t_api_File ⟨[(0, (.tmp 26))]⟩, none, false⟩,
     ⟨some 28, .call ⟨.value (.func f_file_laid), ⟨[(.tmp 24), (.tmp 27)]⟩, ⟨[t_L_api_File, t_api_File]⟩⟩, none, false⟩,
     ⟨some 4, .assign (.tmp 28), none, false⟩,
     ⟨some 5, .assign (.const (.bool true)), none, false⟩])
    .ret)
    (.seq (.reg [⟨some 30, .binOp .eql t_int (.tmp 21) (.const (.int .i64 4)) t_int, none, false⟩,
     ⟨some 29, .assign (.tmp 30), none, false⟩])
    (.cond (.tmp 29)
     (.seq (.reg [⟨some 31, .move (.tmp 0), none, false⟩,
      ⟨some 4, .assign (.tmp 31), none, false⟩,
      ⟨some 5, .assign (.const (.bool true)), none, false⟩])
     .ret)
     .skip))))))
  (.seq (.seq (.reg [⟨some 32, .move (.tmp 7), none, false⟩,
   ⟨some 33, .unOp .not t_bool (.tmp 32), none, false⟩])
  (.cond (.tmp 33)
   (.seq (.reg [⟨some 34, .move (.tmp 0), none, false⟩,
    ⟨some 4, .assign (.tmp 34), none, false⟩,
    ⟨some 5, .assign (.const (.bool false)), none, false⟩])
   .ret)
   .skip))
  (.seq (.reg [⟨some 35, .move (.tmp 0), none, false⟩,
   ⟨some 36, .move (.tmp 6), none, false⟩,
   ⟨some 37, .indexAddr t_L_api_File (.tmp 35) (.tmp 36), none, false⟩,
   ⟨some 38, .load t_api_File (.tmp 37), none, false⟩,
   ⟨some 8, .alloc t_api_File, none, false⟩,
   ⟨none, .store t_api_File (.tmp 8) (.tmp 38), none, false⟩])
  (.seq (.seq (.weak (.reg [⟨some 39, .fieldAddr t_api_Deed (.tmp 3) 0, none, false⟩,
   ⟨some 40, .load t_int (.tmp 39), none, false⟩]))
  (.block 1 (.seq (.reg [⟨some 42, .binOp .eql t_int (.tmp 40) (.const (.int .i64 1)) t_int, none, false⟩,
    ⟨some 41, .assign (.tmp 42), none, false⟩])
   (.cond (.tmp 41)
    (.seq (.reg [⟨some 43, .move (.tmp 0), none, false⟩,
     ⟨some 44, .fieldAddr t_api_Deed (.tmp 3) 1, none, false⟩,
     ⟨some 45, .load t_string (.tmp 44), none, false⟩,
     ⟨some 46, .fieldAddr t_api_File (.tmp 8) 1, none, false⟩,
     ⟨some 47, .load t_string (.tmp 46), none, false⟩,
     ⟨some 48, .fieldAddr t_api_Deed (.tmp 3) 2, none, false⟩,
     ⟨some 49, .load t_string (.tmp 48), none, false⟩,
     ⟨some 50, .binOp .add t_string (.tmp 47) (.tmp 49) t_string, none, false⟩,
     ⟨some 51, .build t_api_File ⟨[(0, (.tmp 45)), (1, (.tmp 50))]⟩, none, false⟩,
     ⟨some 52, .call ⟨.value (.func f_file_laid), ⟨[(.tmp 43), (.tmp 51)]⟩, ⟨[t_L_api_File, t_api_File]⟩⟩, none, false⟩,
     ⟨some 4, .assign (.tmp 52), none, false⟩,
     ⟨some 5, .assign (.const (.bool true)), none, false⟩])
    .ret)
    (.seq (.reg [⟨some 54, .binOp .eql t_int (.tmp 40) (.const (.int .i64 2)) t_int, none, false⟩,
     ⟨some 53, .assign (.tmp 54), none, false⟩])
    (.cond (.tmp 53)
     (.seq (.draw [⟨some 55, .move (.tmp 0), none, false⟩,
      ⟨some 56, .call ⟨.value (.func f_slices_Clone_L_api_File_api_File_), ⟨[(.tmp 55)]⟩, ⟨[t_L_api_File]⟩⟩, none, false⟩,
      ⟨some 57, .move (.tmp 6), none, false⟩,
      ⟨some 58, .move (.tmp 6), none, false⟩,
      ⟨some 59, .binOp .add t_int (.tmp 58) (.const (.int .i64 1)) t_int, none, false⟩,
      ⟨some 60, .call ⟨.value (.func f_slices_Delete_L_api_File_api_File_), ⟨[(.tmp 56), (.tmp 57), (.tmp 59)]⟩, ⟨[t_L_api_File, t_int, t_int]⟩⟩, none, false⟩,
      ⟨some 61, .fieldAddr t_api_Deed (.tmp 3) 2, none, false⟩,
      ⟨some 62, .load t_string (.tmp 61), none, false⟩,
      ⟨some 63, .fieldAddr t_api_File (.tmp 8) 1, none, false⟩,
      ⟨some 64, .load t_string (.tmp 63), none, false⟩,
      ⟨some 65, .build t_api_File ⟨[(0, (.tmp 62)), (1, (.tmp 64))]⟩, none, false⟩,
      ⟨some 66, .call ⟨.value (.func f_file_laid), ⟨[(.tmp 60), (.tmp 65)]⟩, ⟨[t_L_api_File, t_api_File]⟩⟩, none, false⟩,
      ⟨some 4, .assign (.tmp 66), none, false⟩,
      ⟨some 5, .assign (.const (.bool true)), none, false⟩]
     [0, 0, 3, 7, 7, 0, 63, 63, 255, 255, 63, 0, 0, 0])
     .ret)
     .skip))))))
  (.seq (.reg [⟨some 67, .move (.tmp 0), none, false⟩,
   ⟨some 68, .call ⟨.value (.func f_slices_Clone_L_api_File_api_File_), ⟨[(.tmp 67)]⟩, ⟨[t_L_api_File]⟩⟩, none, false⟩,
   ⟨some 69, .move (.tmp 6), none, false⟩,
   ⟨some 70, .move (.tmp 6), none, false⟩,
   ⟨some 71, .binOp .add t_int (.tmp 70) (.const (.int .i64 1)) t_int, none, false⟩,
   ⟨some 72, .call ⟨.value (.func f_slices_Delete_L_api_File_api_File_), ⟨[(.tmp 68), (.tmp 69), (.tmp 71)]⟩, ⟨[t_L_api_File, t_int, t_int]⟩⟩, none, false⟩,
   ⟨some 4, .assign (.tmp 72), none, false⟩,
   ⟨some 5, .assign (.const (.bool true)), none, false⟩])
  .ret))))))))
theorem k_file_done : FnOk Try.prog f_file_done 73 [.tmp 4, .tmp 5] c_file_done := ⟨_, _, Try.func74, by kernel_rfl, rfl, Try.ntmps74, rfl, by kernel_rfl⟩

def c_slices_Equal_L_api_File_api_File_ : LC :=
  (.seq (.reg [⟨some 4, .assign (.const (.bool false)), none, false⟩])
  (.seq (.seq (.reg [⟨some 6, .move (.tmp 0), none, false⟩,
   ⟨some 7, .call ⟨.builtin .len, ⟨[(.tmp 6)]⟩, ⟨[t_L_api_File]⟩⟩, none, false⟩,
   ⟨some 8, .move (.tmp 1), none, false⟩,
   ⟨some 9, .call ⟨.builtin .len, ⟨[(.tmp 8)]⟩, ⟨[t_L_api_File]⟩⟩, none, false⟩,
   ⟨some 10, .binOp .neq t_int (.tmp 7) (.tmp 9) t_int, none, false⟩])
  (.cond (.tmp 10)
   (.seq (.reg [⟨some 4, .assign (.const (.bool false)), none, false⟩])
   .ret)
   .skip))
  (.seq (.seq (.reg [⟨some 11, .move (.tmp 0), none, false⟩,
   ⟨some 12, .call ⟨.builtin .len, ⟨[(.tmp 11)]⟩, ⟨[t_L_api_File]⟩⟩, none, false⟩,
   ⟨some 13, .move (.const (.int .i64 0)), none, false⟩])
  (.block 0 (.loop [true, true, false, false, false, false, false, false, false, false, false, false, true, true, false, false, false, false, false, false, false, false, false, false, false, false] none
   (.seq (.reg [⟨some 14, .binOp .lss t_int (.tmp 13) (.tmp 12) t_int, none, false⟩])
    (.seq (.cond (.tmp 14)
     .skip
     (.exit 0))
    (.seq (.block 1 (.seq (.reg [⟨some 15, .move (.tmp 13), none, false⟩,
      ⟨some 5, .assign (.tmp 15), none, false⟩])
     (.seq (.draw [⟨some 16, .move (.tmp 0), none, false⟩,
      ⟨some 17, .move (.tmp 5), none, false⟩,
      ⟨some 18, .indexAddr t_L_api_File (.tmp 16) (.tmp 17), none, false⟩,
      ⟨some 19, .load t_api_File (.tmp 18), none, false⟩,
      ⟨some 20, .move (.tmp 1), none, false⟩,
      ⟨some 21, .move (.tmp 5), none, false⟩,
      ⟨some 22, .indexAddr t_L_api_File (.tmp 20) (.tmp 21), none, false⟩,
      ⟨some 23, .load t_api_File (.tmp 22), none, false⟩,
      ⟨some 24, .binOp .neq t_api_File (.tmp 19) (.tmp 23) t_api_File, none, false⟩]
     [0, 1, 0, 0, 15, 31, 15, 15, 0])
     (.cond (.tmp 24)
      (.seq (.reg [⟨some 4, .assign (.const (.bool false)), none, false⟩])
      .ret)
      .skip))))
    (.reg [⟨some 25, .binOp .add t_int (.tmp 13) (.const (.int .i64 1)) t_int, none, false⟩,
     ⟨some 13, .move (.tmp 25), none, false⟩])))))))
  (.seq (.reg [⟨some 4, .assign (.const (.bool true)), none, false⟩])
  .ret))))
theorem k_slices_Equal_L_api_File_api_File_ : FnOk Try.prog f_slices_Equal_L_api_File_api_File_ 26 [.tmp 4] c_slices_Equal_L_api_File_api_File_ := ⟨_, _, Try.func75, by kernel_rfl, rfl, Try.ntmps75, rfl, by kernel_rfl⟩

def c_slices_Equal_L_api_Deed_api_Deed_ : LC :=
  (.seq (.reg [⟨some 4, .assign (.const (.bool false)), none, false⟩])
  (.seq (.seq (.reg [⟨some 6, .move (.tmp 0), none, false⟩,
   ⟨some 7, .call ⟨.builtin .len, ⟨[(.tmp 6)]⟩, ⟨[t_L_api_Deed]⟩⟩, none, false⟩,
   ⟨some 8, .move (.tmp 1), none, false⟩,
   ⟨some 9, .call ⟨.builtin .len, ⟨[(.tmp 8)]⟩, ⟨[t_L_api_Deed]⟩⟩, none, false⟩,
   ⟨some 10, .binOp .neq t_int (.tmp 7) (.tmp 9) t_int, none, false⟩])
  (.cond (.tmp 10)
   (.seq (.reg [⟨some 4, .assign (.const (.bool false)), none, false⟩])
   .ret)
   .skip))
  (.seq (.seq (.reg [⟨some 11, .move (.tmp 0), none, false⟩,
   ⟨some 12, .call ⟨.builtin .len, ⟨[(.tmp 11)]⟩, ⟨[t_L_api_Deed]⟩⟩, none, false⟩,
   ⟨some 13, .move (.const (.int .i64 0)), none, false⟩])
  (.block 0 (.loop [true, true, false, false, false, false, false, false, false, false, false, false, true, true, false, false, false, false, false, false, false, false, false, false, false, false] none
   (.seq (.reg [⟨some 14, .binOp .lss t_int (.tmp 13) (.tmp 12) t_int, none, false⟩])
    (.seq (.cond (.tmp 14)
     .skip
     (.exit 0))
    (.seq (.block 1 (.seq (.reg [⟨some 15, .move (.tmp 13), none, false⟩,
      ⟨some 5, .assign (.tmp 15), none, false⟩])
     (.seq (.draw [⟨some 16, .move (.tmp 0), none, false⟩,
      ⟨some 17, .move (.tmp 5), none, false⟩,
      ⟨some 18, .indexAddr t_L_api_Deed (.tmp 16) (.tmp 17), none, false⟩,
      ⟨some 19, .load t_api_Deed (.tmp 18), none, false⟩,
      ⟨some 20, .move (.tmp 1), none, false⟩,
      ⟨some 21, .move (.tmp 5), none, false⟩,
      ⟨some 22, .indexAddr t_L_api_Deed (.tmp 20) (.tmp 21), none, false⟩,
      ⟨some 23, .load t_api_Deed (.tmp 22), none, false⟩,
      ⟨some 24, .binOp .neq t_api_Deed (.tmp 19) (.tmp 23) t_api_Deed, none, false⟩]
     [0, 1, 0, 0, 15, 31, 15, 15, 0])
     (.cond (.tmp 24)
      (.seq (.reg [⟨some 4, .assign (.const (.bool false)), none, false⟩])
      .ret)
      .skip))))
    (.reg [⟨some 25, .binOp .add t_int (.tmp 13) (.const (.int .i64 1)) t_int, none, false⟩,
     ⟨some 13, .move (.tmp 25), none, false⟩])))))))
  (.seq (.reg [⟨some 4, .assign (.const (.bool true)), none, false⟩])
  .ret))))
theorem k_slices_Equal_L_api_Deed_api_Deed_ : FnOk Try.prog f_slices_Equal_L_api_Deed_api_Deed_ 26 [.tmp 4] c_slices_Equal_L_api_Deed_api_Deed_ := ⟨_, _, Try.func76, by kernel_rfl, rfl, Try.ntmps76, rfl, by kernel_rfl⟩

def c_file_find : LC :=
  (.seq (.reg [⟨some 4, .assign (.const (.int .i64 0)), none, false⟩,
   ⟨some 5, .assign (.const (.bool false)), none, false⟩])
  (.seq (.reg [⟨some 6, .move (.tmp 0), none, false⟩,
   ⟨some 7, .move (.tmp 1), none, false⟩,
   ⟨some 8, .call ⟨.value (.func f_slices_BinarySearchFunc_L_api_File_api_File_string_), ⟨[(.tmp 6), (.tmp 7), (.func f_file_byName)]⟩, ⟨[t_L_api_File, t_string, t_func_api_File__string__int]⟩⟩, none, false⟩,
   ⟨some 9, .extract (.tmp 8) 0, none, false⟩,
   ⟨some 10, .extract (.tmp 8) 1, none, false⟩,
   ⟨some 4, .assign (.tmp 9), none, false⟩,
   ⟨some 5, .assign (.tmp 10), none, false⟩])
  .ret))
theorem k_file_find : FnOk Try.prog f_file_find 11 [.tmp 4, .tmp 5] c_file_find := ⟨_, _, Try.func77, by kernel_rfl, rfl, Try.ntmps77, rfl, by kernel_rfl⟩

def c_louperef23_Seen : LC :=
  (.seq (.reg [⟨some 1, .box t_api_Disk (.tmp 0), none, false⟩,
   ⟨some 2, .assign (.const (.slice none 0 0)), none, false⟩])
  (.seq (.weak (.reg [⟨some 3, .load t_api_Disk (.tmp 1), none, false⟩,
   ⟨some 4, .fieldAddr t_api_Disk (.tmp 1) 1, none, false⟩,
   ⟨some 5, .load t_L_api_Deed (.tmp 4), none, false⟩,
   ⟨some 6, .call ⟨.builtin .len, ⟨[(.tmp 5)]⟩, ⟨[t_L_api_Deed]⟩⟩, none, false⟩,
   ⟨some 7, .call ⟨.value (.func f_louperef23_Crash), ⟨[(.tmp 3), (.tmp 6)]⟩, ⟨[t_api_Disk, t_int]⟩⟩, none, false⟩,
   ⟨some 8, .field t_api_Disk (.tmp 7) 0, none, false⟩,
   ⟨some 2, .assign (.tmp 8), none, false⟩]))
  .ret))
theorem k_louperef23_Seen : FnOk Try.prog f_louperef23_Seen 9 [.tmp 2] c_louperef23_Seen := ⟨_, _, Try.func78, by kernel_rfl, rfl, Try.ntmps78, rfl, by kernel_rfl⟩

def c_louperef23_Find : LC :=
  (.seq (.reg [⟨some 4, .assign (.const (.int .i64 0)), none, false⟩])
  (.seq (.seq (.reg [⟨some 5, .assign (.const (.int .i64 0)), none, false⟩])
  (.block 0 (.loop [true, true, false, false, false, true, false, false, false, false, false, false, false, false, false, false, false, false, false, false] none
   (.seq (.seq (.reg [⟨some 6, .move (.tmp 5), none, false⟩,
     ⟨some 7, .move (.tmp 0), none, false⟩,
     ⟨some 8, .call ⟨.builtin .len, ⟨[(.tmp 7)]⟩, ⟨[t_L_api_File]⟩⟩, none, false⟩,
     ⟨some 9, .binOp .lss t_int (.tmp 6) (.tmp 8) t_int, none, false⟩])
    (.cond (.tmp 9)
     .skip
     (.exit 0)))
    (.seq (.block 1 (.seq (.reg [⟨some 12, .move (.tmp 0), none, false⟩,
      ⟨some 13, .move (.tmp 5), none, false⟩,
      ⟨some 14, .indexAddr t_L_api_File (.tmp 12) (.tmp 13), none, false⟩,
      ⟨some 15, .fieldAddr t_api_File (.tmp 14) 0, none, false⟩,
      ⟨some 16, .load t_string (.tmp 15), none, false⟩,
      ⟨some 17, .move (.tmp 1), none, false⟩,
      ⟨some 18, .binOp .eql t_string (.tmp 16) (.tmp 17) t_string, none, false⟩])
     (.cond (.tmp 18)
      (.seq (.reg [⟨some 19, .move (.tmp 5), none, false⟩,
       ⟨some 4, .assign (.tmp 19), none, false⟩])
      .ret)
      .skip)))
    (.reg [⟨some 10, .move (.tmp 5), none, false⟩,
     ⟨some 11, .binOp .add t_int (.tmp 10) (.const (.int .i64 1)) t_int, none, false⟩,
     ⟨some 5, .assign (.tmp 11), none, false⟩]))))))
  (.seq (.reg [⟨some 4, .assign (.const (.int .i64 (-1))), none, false⟩])
  .ret)))
theorem k_louperef23_Find : FnOk Try.prog f_louperef23_Find 20 [.tmp 4] c_louperef23_Find := ⟨_, _, Try.func79, by kernel_rfl, rfl, Try.ntmps79, rfl, by kernel_rfl⟩

def c_file_may : LC :=
  (.seq (.reg [⟨some 1, .box t_api_Deed (.tmp 0), none, false⟩,
   ⟨some 2, .assign (.const (.bool false)), none, false⟩])
  (.seq (.seq (.weak (.reg [⟨some 3, .fieldAddr t_api_Deed (.tmp 1) 0, none, false⟩,
   ⟨some 4, .load t_int (.tmp 3), none, false⟩]))
  (.block 0 (.seq (.seq (.reg [⟨some 6, .binOp .eql t_int (.tmp 4) (.const (.int .i64 0)) t_int, none, false⟩,
    ⟨some 5, .assign (.tmp 6), none, false⟩])
   (.cond (.tmp 5)
    .skip
    (.reg [⟨some 7, .binOp .eql t_int (.tmp 4) (.const (.int .i64 3)) t_int, none, false⟩,
     ⟨some 5, .assign (.tmp 7), none, false⟩])))
   (.cond (.tmp 5)
    (.seq (.reg [⟨some 8, .fieldAddr t_api_Deed (.tmp 1) 1, none, false⟩,
     ⟨some 9, .load t_string (.tmp 8), none, false⟩,
     ⟨some 10, .call ⟨.value (.func f_file_isName), ⟨[(.tmp 9)]⟩, ⟨[t_string]⟩⟩, none, false⟩,
     ⟨some 11, .move (.tmp 10), none, false⟩,
     ⟨some 12, .fieldAddr t_api_Deed (.tmp 1) 2, some (some 11, true), false⟩,
     ⟨some 13, .load t_string (.tmp 12), some (some 11, true), false⟩,
     ⟨some 14, .binOp .eql t_string (.tmp 13) (.const (.string ⟨⟨[]⟩⟩)) t_string, some (some 11, true), false⟩,
     ⟨some 15, .pick (.tmp 11) (.tmp 14) (.const (.bool false)), none, false⟩,
     ⟨some 2, .assign (.tmp 15), none, false⟩])
    .ret)
    (.seq (.reg [⟨some 17, .binOp .eql t_int (.tmp 4) (.const (.int .i64 1)) t_int, none, false⟩,
     ⟨some 16, .assign (.tmp 17), none, false⟩])
    (.cond (.tmp 16)
     (.seq (.reg [⟨some 18, .fieldAddr t_api_Deed (.tmp 1) 1, none, false⟩,
      ⟨some 19, .load t_string (.tmp 18), none, false⟩,
      ⟨some 20, .call ⟨.value (.func f_file_isName), ⟨[(.tmp 19)]⟩, ⟨[t_string]⟩⟩, none, false⟩,
      ⟨some 2, .assign (.tmp 20), none, false⟩])
     .ret)
     (.seq (.reg [⟨some 22, .binOp .eql t_int (.tmp 4) (.const (.int .i64 2)) t_int, none, false⟩,
      ⟨some 21, .assign (.tmp 22), none, false⟩])
     (.cond (.tmp 21)
      (.seq (.reg [⟨some 23, .fieldAddr t_api_Deed (.tmp 1) 1, none, false⟩,
       ⟨some 24, .load t_string (.tmp 23), none, false⟩,
       ⟨some 25, .call ⟨.value (.func f_file_isName), ⟨[(.tmp 24)]⟩, ⟨[t_string]⟩⟩, none, false⟩,
       ⟨some 26, .move (.tmp 25), none, false⟩,
       ⟨some 27, .fieldAddr t_api_Deed (.tmp 1) 2, some (some 26, true), false⟩,
       ⟨some 28, .load t_string (.tmp 27), some (some 26, true), false⟩,
       ⟨some 29, .call ⟨.value (.func f_file_isName), ⟨[(.tmp 28)]⟩, ⟨[t_string]⟩⟩, some (some 26, true), false⟩,
       ⟨some 30, .pick (.tmp 26) (.tmp 29) (.const (.bool false)), none, false⟩,
       ⟨some 2, .assign (.tmp 30), none, false⟩])
      .ret)
      (.seq (.reg [⟨some 32, .binOp .eql t_int (.tmp 4) (.const (.int .i64 4)) t_int, none, false⟩,
       ⟨some 31, .assign (.tmp 32), none, false⟩])
      (.cond (.tmp 31)
       (.seq (.reg [⟨some 33, .load t_api_Deed (.tmp 1), none, false⟩,
        ⟨some 34, .build t_api_Deed ⟨[(0, (.const (.int .i64 4)))]⟩, none, false⟩,
        ⟨some 35, .binOp .eql t_api_Deed (.tmp 33) (.tmp 34) t_api_Deed, none, false⟩,
        ⟨some 2, .assign (.tmp 35), none, false⟩])
       .ret)
       .skip))))))))))
  (.seq (.reg [⟨some 2, .assign (.const (.bool false)), none, false⟩])
  .ret)))
theorem k_file_may : FnOk Try.prog f_file_may 36 [.tmp 2] c_file_may := ⟨_, _, Try.func80, by kernel_rfl, rfl, Try.ntmps80, rfl, by kernel_rfl⟩

def c_louperef23_done : LC :=
  (.seq (.reg [⟨some 3, .box t_api_Deed (.tmp 1), none, false⟩,
   ⟨some 4, .assign (.const (.slice none 0 0)), none, false⟩])
  (.seq (.weak (.reg [⟨some 6, .move (.tmp 0), none, false⟩,
   ⟨some 7, .fieldAddr t_api_Deed (.tmp 3) 1, none, false⟩,
   ⟨some 8, .load t_string (.tmp 7), none, false⟩,
   ⟨some 9, .call ⟨.value (.func f_louperef23_Find), ⟨[(.tmp 6), (.tmp 8)]⟩, ⟨[t_L_api_File, t_string]⟩⟩, none, false⟩,
   ⟨some 5, .assign (.tmp 9), none, false⟩]))
  (.seq (.seq (.reg [⟨some 10, .load t_api_Deed (.tmp 3), none, false⟩,
   ⟨some 11, .call ⟨.value (.func f_louperef23_needs), ⟨[(.tmp 10)]⟩, ⟨[t_api_Deed]⟩⟩, none, false⟩,
   ⟨some 12, .move (.tmp 11), none, false⟩,
   ⟨some 13, .move (.tmp 5), some (some 12, true), false⟩,
   ⟨some 14, .binOp .lss t_int (.tmp 13) (.const (.int .i64 0)) t_int, some (some 12, true), false⟩,
   ⟨some 15, .pick (.tmp 12) (.tmp 14) (.const (.bool false)), none, false⟩])
  (.cond (.tmp 15)
   (.seq (.reg [⟨some 16, .move (.tmp 0), none, false⟩,
    ⟨some 4, .assign (.tmp 16), none, false⟩])
   .ret)
   .skip))
  (.seq (.seq (.reg [⟨some 17, .fieldAddr t_api_Deed (.tmp 3) 0, none, false⟩,
   ⟨some 18, .load t_int (.tmp 17), none, false⟩])
  (.block 0 (.seq (.reg [⟨some 20, .binOp .eql t_int (.tmp 18) (.const (.int .i64 0)) t_int, none, false⟩,
    ⟨some 19, .assign (.tmp 20), none, false⟩])
   (.cond (.tmp 19)
    (.seq (.reg [⟨some 21, .move (.tmp 0), none, false⟩,
     ⟨some 22, .fieldAddr t_api_Deed (.tmp 3) 1, none, false⟩,
     ⟨some 23, .load t_string (.tmp 22), none, false⟩,
     ⟨some 24, .build t_api_File ⟨[(0, (.tmp 23))]⟩, none, false⟩,
     ⟨some 25, .call ⟨.value (.func f_louperef23_with), ⟨[(.tmp 21), (.tmp 24)]⟩, ⟨[t_L_api_File, t_api_File]⟩⟩, none, false⟩,
     ⟨some 4, .assign (.tmp 25), none, false⟩])
    .ret)
    (.seq (.reg [⟨some 27, .binOp .eql t_int (.tmp 18) (.const (.int .i64 1)) t_int, none, false⟩,
     ⟨some 26, .assign (.tmp 27), none, false⟩])
    (.cond (.tmp 26)
     (.seq (.draw [⟨some 28, .move (.tmp 0), none, false⟩,
      ⟨some 29, .fieldAddr t_api_Deed (.tmp 3) 1, none, false⟩,
      ⟨some 30, .load t_string (.tmp 29), none, false⟩,
      ⟨some 31, .move (.tmp 0), none, false⟩,
      ⟨some 32, .move (.tmp 5), none, false⟩,
      ⟨some 33, .indexAddr t_L_api_File (.tmp 31) (.tmp 32), none, false⟩,
      ⟨some 34, .fieldAddr t_api_File (.tmp 33) 1, none, false⟩,
      ⟨some 35, .load t_string (.tmp 34), none, false⟩,
      ⟨some 36, .fieldAddr t_api_Deed (.tmp 3) 2, none, false⟩,
      ⟨some 37, .load t_string (.tmp 36), none, false⟩,
      ⟨some 38, .binOp .add t_string (.tmp 35) (.tmp 37) t_string, none, false⟩,
      ⟨some 39, .build t_api_File ⟨[(0, (.tmp 30)), (1, (.tmp 38))]⟩, none, false⟩,
      ⟨some 40, .call ⟨.value (.func f_louperef23_with), ⟨[(.tmp 28), (.tmp 39)]⟩, ⟨[t_L_api_File, t_api_File]⟩⟩, none, false⟩,
      ⟨some 4, .assign (.tmp 40), none, false⟩]
     [0, 1, 1, 7, 15, 7, 7, 7, 255, 255, 7, 1, 0, 0])
     .ret)
     (.seq (.reg [⟨some 42, .binOp .eql t_int (.tmp 18) (.const (.int .i64 2)) t_int, none, false⟩,
      ⟨some 41, .assign (.tmp 42), none, false⟩])
     (.cond (.tmp 41)
      (.seq (.draw [⟨some 43, .move (.tmp 0), none, false⟩,
       ⟨some 44, .fieldAddr t_api_Deed (.tmp 3) 1, none, false⟩,
       ⟨some 45, .load t_string (.tmp 44), none, false⟩,
       ⟨some 46, .call ⟨.value (.func f_louperef23_without), ⟨[(.tmp 43), (.tmp 45)]⟩, ⟨[t_L_api_File, t_string]⟩⟩, none, false⟩,
       ⟨some 47, .fieldAddr t_api_Deed (.tmp 3) 2, none, false⟩,
       ⟨some 48, .load t_string (.tmp 47), none, false⟩,
       ⟨some 49, .move (.tmp 0), none, false⟩,
       ⟨some 50, .move (.tmp 5), none, false⟩,
       ⟨some 51, .indexAddr t_L_api_File (.tmp 49) (.tmp 50), none, false⟩,
       ⟨some 52, .fieldAddr t_api_File (.tmp 51) 1, none, false⟩,
       ⟨some 53, .load t_string (.tmp 52), none, false⟩,
       ⟨some 54, .build t_api_File ⟨[(0, (.tmp 48)), (1, (.tmp 53))]⟩, none, false⟩,
       ⟨some 55, .call ⟨.value (.func f_louperef23_with), ⟨[(.tmp 46), (.tmp 54)]⟩, ⟨[t_L_api_File, t_api_File]⟩⟩, none, false⟩,
       ⟨some 4, .assign (.tmp 55), none, false⟩]
      [0, 1, 1, 0, 15, 15, 63, 127, 63, 63, 63, 15, 0, 0])
      .ret)
      (.seq (.reg [⟨some 57, .binOp .eql t_int (.tmp 18) (.const (.int .i64 3)) t_int, none, false⟩,
       ⟨some 56, .assign (.tmp 57), none, false⟩])
      (.cond (.tmp 56)
       (.seq (.reg [⟨some 58, .move (.tmp 0), none, false⟩,
        ⟨some 59, .fieldAddr t_api_Deed (.tmp 3) 1, none, false⟩,
        ⟨some 60, .load t_string (.tmp 59), none, false⟩,
        ⟨some 61, .call ⟨.value (.func f_louperef23_without), ⟨[(.tmp 58), (.tmp 60)]⟩, ⟨[t_L_api_File, t_string]⟩⟩, none, false⟩,
        ⟨some 4, .assign (.tmp 61), none, false⟩])
       .ret)
       .skip))))))))))
  (.seq (.reg [⟨some 62, .move (.tmp 0), none, false⟩,
   ⟨some 4, .assign (.tmp 62), none, false⟩])
  .ret)))))
theorem k_louperef23_done : FnOk Try.prog f_louperef23_done 63 [.tmp 4] c_louperef23_done := ⟨_, _, Try.func82, by kernel_rfl, rfl, Try.ntmps82, rfl, by kernel_rfl⟩

def c__P_file_saver__next : LC :=
  (.seq (.reg [⟨some 2, .assign (.const (.bool false)), none, false⟩])
  (.seq (.seq (.draw [⟨some 3, .move (.tmp 0), none, false⟩,
   ⟨some 4, .nilCheck (.tmp 3), none, false⟩,
   ⟨some 5, .fieldAddr t_file_saver (.tmp 4) 1, none, false⟩,
   ⟨some 6, .load t_int (.tmp 5), none, false⟩,
   ⟨some 7, .binOp .geq t_int (.tmp 6) (.const (.int .i64 0)) t_int, none, false⟩,
   ⟨some 8, .move (.tmp 7), none, false⟩,
   ⟨some 9, .move (.tmp 0), some (some 8, true), false⟩,
   ⟨some 10, .nilCheck (.tmp 9), some (some 8, true), false⟩,
   ⟨some 11, .fieldAddr t_file_saver (.tmp 10) 0, some (some 8, true), false⟩,
   ⟨some 12, .call ⟨.value (.func f__P_sync_atomic_Int64__Load), ⟨[(.tmp 11)]⟩, ⟨[t_atomic_Int64]⟩⟩, some (some 8, true), false⟩,
   ⟨some 13, .move (.tmp 0), some (some 8, true), false⟩,
   ⟨some 14, .nilCheck (.tmp 13), some (some 8, true), false⟩,
   ⟨some 15, .fieldAddr t_file_saver (.tmp 14) 1, some (some 8, true), false⟩,
   ⟨some 16, .load t_int (.tmp 15), some (some 8, true), false⟩,
   ⟨some 17, .binOp .geq t_int64 (.tmp 12) (.tmp 16) t_int64, some (some 8, true), false⟩,
   ⟨some 18, .pick (.tmp 8) (.tmp 17) (.const (.bool false)), none, false⟩]
  [0, 0, 0, 0, 0, 0, 0, 0, 0, 0, 960, 960, 960, 960, 0, 0])
  (.cond (.tmp 18)
   (.seq (.reg [⟨some 2, .assign (.const (.bool false)), none, false⟩])
   .ret)
   .skip))
  (.seq (.reg [⟨some 19, .move (.tmp 0), none, false⟩,
   ⟨some 20, .nilCheck (.tmp 19), none, false⟩,
   ⟨some 21, .fieldAddr t_file_saver (.tmp 20) 0, none, false⟩,
   ⟨some 22, .call ⟨.value (.func f__P_sync_atomic_Int64__Add), ⟨[(.tmp 21), (.const (.int .i64 1))]⟩, ⟨[t_atomic_Int64, t_int64]⟩⟩, none, false⟩])
  (.seq (.reg [⟨some 2, .assign (.const (.bool true)), none, false⟩])
  .ret))))
theorem k__P_file_saver__next : FnOk Try.prog f__P_file_saver__next 23 [.tmp 2] c__P_file_saver__next := ⟨_, _, Try.func83, by kernel_rfl, rfl, Try.ntmps83, rfl, by kernel_rfl⟩

def c_file_laid : LC :=
  (.seq (.reg [⟨some 3, .box t_api_File (.tmp 1), none, false⟩,
   ⟨some 4, .assign (.const (.slice none 0 0)), none, false⟩])
  (.seq (.weak (.reg [⟨some 7, .move (.tmp 0), none, false⟩,
   ⟨some 8, .call ⟨.value (.func f_slices_Clone_L_api_File_api_File_), ⟨[(.tmp 7)]⟩, ⟨[t_L_api_File]⟩⟩, none, false⟩,
   ⟨some 0, .assign (.tmp 8), none, false⟩]))
  (.seq (.reg [⟨some 10, .move (.tmp 0), none, false⟩,
   ⟨some 11, .fieldAddr t_api_File (.tmp 3) 0, none, false⟩,
   ⟨some 12, .load t_string (.tmp 11), none, false⟩,
   ⟨some 13, .call ⟨.value (.func f_file_find), ⟨[(.tmp 10), (.tmp 12)]⟩, ⟨[t_L_api_File, t_string]⟩⟩, none, false⟩,
   ⟨some 9, .move (.tmp 13), none, false⟩,
   ⟨some 14, .extract (.tmp 9) 0, none, false⟩,
   ⟨some 15, .extract (.tmp 9) 1, none, false⟩,
   ⟨some 5, .assign (.tmp 14), none, false⟩,
   ⟨some 6, .assign (.tmp 15), none, false⟩])
  (.seq (.seq (.reg [⟨some 16, .move (.tmp 6), none, false⟩])
  (.cond (.tmp 16)
   (.seq (.reg [⟨some 17, .move (.tmp 0), none, false⟩,
    ⟨some 18, .move (.tmp 5), none, false⟩,
    ⟨some 19, .load t_api_File (.tmp 3), none, false⟩,
    ⟨some 20, .indexAddr t_L_api_File (.tmp 17) (.tmp 18), none, false⟩,
    ⟨none, .store t_api_File (.tmp 20) (.tmp 19), none, false⟩])
   (.seq (.reg [⟨some 21, .move (.tmp 0), none, false⟩,
    ⟨some 4, .assign (.tmp 21), none, false⟩])
   .ret))
   .skip))
  (.seq (.reg [⟨some 22, .move (.tmp 0), none, false⟩,
   ⟨some 23, .move (.tmp 5), none, false⟩,
   ⟨some 24, .load t_api_File (.tmp 3), none, false⟩,
   ⟨some 25, .buildSlice t_L_api_File 1 ⟨[(0, (.tmp 24))]⟩, none, true⟩,
   ⟨some 26, .call ⟨.value (.func f_slices_Insert_L_api_File_api_File_), ⟨[(.tmp 22), (.tmp 23), (.tmp 25)]⟩, ⟨[t_L_api_File, t_int, t_L_api_File]⟩⟩, none, false⟩,
   ⟨some 4, .assign (.tmp 26), none, false⟩])
  .ret)))))
theorem k_file_laid : FnOk Try.prog f_file_laid 27 [.tmp 4] c_file_laid := ⟨_, _, Try.func97, by kernel_rfl, rfl, Try.ntmps97, rfl, by kernel_rfl⟩

def c_slices_Clone_L_api_File_api_File_ : LC :=
  (.seq (.reg [⟨some 2, .assign (.const (.slice none 0 0)), none, false⟩])
  (.seq (.seq (.reg [⟨some 3, .move (.tmp 0), none, false⟩,
   ⟨some 4, .binOp .eql t_L_api_File (.tmp 3) (.const (.slice none 0 0)) t_L_api_File, none, false⟩])
  (.cond (.tmp 4)
   (.seq (.reg [⟨some 2, .assign (.const (.slice none 0 0)), none, false⟩])
   .ret)
   .skip))
  (.seq (.reg [⟨some 5, .buildSlice t_L_api_File 0 ⟨[]⟩, none, true⟩,
   ⟨some 6, .move (.tmp 0), none, false⟩,
   ⟨some 7, .call ⟨.builtin .append, ⟨[(.tmp 5), (.tmp 6)]⟩, ⟨[t_L_api_File, t_L_api_File]⟩⟩, none, false⟩,
   ⟨some 2, .assign (.tmp 7), none, false⟩])
  .ret)))
theorem k_slices_Clone_L_api_File_api_File_ : FnOk Try.prog f_slices_Clone_L_api_File_api_File_ 8 [.tmp 2] c_slices_Clone_L_api_File_api_File_ := ⟨_, _, Try.func99, by kernel_rfl, rfl, Try.ntmps99, rfl, by kernel_rfl⟩

def c_slices_BinarySearchFunc_L_api_File_api_File_string_ : LC :=
  (.seq (.reg [⟨some 6, .assign (.const (.int .i64 0)), none, false⟩,
   ⟨some 7, .assign (.const (.bool false)), none, false⟩])
  (.seq (.reg [⟨some 12, .move (.tmp 0), none, false⟩,
   ⟨some 13, .call ⟨.builtin .len, ⟨[(.tmp 12)]⟩, ⟨[t_L_api_File]⟩⟩, none, false⟩,
   ⟨some 8, .assign (.tmp 13), none, false⟩])
  (.seq (.reg [⟨some 14, .move (.tmp 8), none, false⟩,
   ⟨some 9, .assign (.const (.int .i64 0)), none, false⟩,
   ⟨some 10, .assign (.tmp 14), none, false⟩])
  (.seq (.block 0 (.loop [true, true, true, false, false, false, false, false, true, true, true, false, false, false, false, false, false, false, false, false, false, false, false, false, false, false, false, false, false, false, false, false, false, false, false, false, false, false, false, false, false, false, false, false, false, false, false, false, false] none
   (.seq (.seq (.reg [⟨some 15, .move (.tmp 9), none, false⟩,
     ⟨some 16, .move (.tmp 10), none, false⟩,
     ⟨some 17, .binOp .lss t_int (.tmp 15) (.tmp 16) t_int, none, false⟩])
    (.cond (.tmp 17)
     .skip
     (.exit 0)))
    (.block 1 (.seq (.reg [⟨some 18, .move (.tmp 9), none, false⟩,
      ⟨some 19, .move (.tmp 10), none, false⟩,
      ⟨some 20, .binOp .add t_int (.tmp 18) (.tmp 19) t_int, none, false⟩,
      ⟨some 21, .convert t_int t_uint (.tmp 20), none, false⟩,
      ⟨some 22, .binOp .shr t_uint (.tmp 21) (.const (.int .u64 1)) t_uint, none, false⟩,
      ⟨some 23, .convert t_uint t_int (.tmp 22), none, false⟩,
      ⟨some 11, .assign (.tmp 23), none, false⟩])
     (.seq (.reg [⟨some 24, .move (.tmp 2), none, false⟩,
      ⟨some 25, .move (.tmp 0), none, false⟩,
      ⟨some 26, .move (.tmp 11), none, false⟩,
      ⟨some 27, .indexAddr t_L_api_File (.tmp 25) (.tmp 26), none, false⟩,
      ⟨some 28, .load t_api_File (.tmp 27), none, false⟩,
      ⟨some 29, .move (.tmp 1), none, false⟩,
      ⟨some 30, .call ⟨.value (.tmp 24), ⟨[(.tmp 28), (.tmp 29)]⟩, ⟨[t_api_File, t_string]⟩⟩, none, false⟩,
      ⟨some 31, .binOp .lss t_int (.tmp 30) (.const (.int .i64 0)) t_int, none, false⟩])
     (.cond (.tmp 31)
      (.reg [⟨some 32, .move (.tmp 11), none, false⟩,
       ⟨some 33, .binOp .add t_int (.tmp 32) (.const (.int .i64 1)) t_int, none, false⟩,
       ⟨some 9, .assign (.tmp 33), none, false⟩])
      (.reg [⟨some 34, .move (.tmp 11), none, false⟩,
       ⟨some 10, .assign (.tmp 34), none, false⟩]))))))))
  (.seq (.reg [⟨some 35, .move (.tmp 9), none, false⟩,
   ⟨some 36, .move (.tmp 9), none, false⟩,
   ⟨some 37, .move (.tmp 8), none, false⟩,
   ⟨some 38, .binOp .lss t_int (.tmp 36) (.tmp 37) t_int, none, false⟩,
   ⟨some 39, .move (.tmp 38), none, false⟩,
   ⟨some 40, .move (.tmp 2), some (some 39, true), false⟩,
   ⟨some 41, .move (.tmp 0), some (some 39, true), false⟩,
   ⟨some 42, .move (.tmp 9), some (some 39, true), false⟩,
   ⟨some 43, .indexAddr t_L_api_File (.tmp 41) (.tmp 42), some (some 39, true), false⟩,
   ⟨some 44, .load t_api_File (.tmp 43), some (some 39, true), false⟩,
   ⟨some 45, .move (.tmp 1), some (some 39, true), false⟩,
   ⟨some 46, .call ⟨.value (.tmp 40), ⟨[(.tmp 44), (.tmp 45)]⟩, ⟨[t_api_File, t_string]⟩⟩, some (some 39, true), false⟩,
   ⟨some 47, .binOp .eql t_int (.tmp 46) (.const (.int .i64 0)) t_int, some (some 39, true), false⟩,
   ⟨some 48, .pick (.tmp 39) (.tmp 47) (.const (.bool false)), none, false⟩,
   ⟨some 6, .assign (.tmp 35), none, false⟩,
   ⟨some 7, .assign (.tmp 48), none, false⟩])
  .ret)))))
theorem k_slices_BinarySearchFunc_L_api_File_api_File_string_ : FnOk Try.prog f_slices_BinarySearchFunc_L_api_File_api_File_string_ 49 [.tmp 6, .tmp 7] c_slices_BinarySearchFunc_L_api_File_api_File_string_ := ⟨_, _, Try.func100, by kernel_rfl, rfl, Try.ntmps100, rfl, by kernel_rfl⟩

def c_file_byName : LC :=
  (.seq (.reg [⟨some 2, .box t_api_File (.tmp 0), none, false⟩,
   ⟨some 4, .assign (.const (.int .i64 0)), none, false⟩])
  (.seq (.weak (.reg [⟨some 5, .fieldAddr t_api_File (.tmp 2) 0, none, false⟩,
   ⟨some 6, .load t_string (.tmp 5), none, false⟩,
   ⟨some 7, .move (.tmp 1), none, false⟩,
   ⟨some 8, .call ⟨.value (.func f_cmp_Compare_string_), ⟨[(.tmp 6), (.tmp 7)]⟩, ⟨[t_string, t_string]⟩⟩, none, false⟩,
   ⟨some 4, .assign (.tmp 8), none, false⟩]))
  .ret))
theorem k_file_byName : FnOk Try.prog f_file_byName 9 [.tmp 4] c_file_byName := ⟨_, _, Try.func101, by kernel_rfl, rfl, Try.ntmps101, rfl, by kernel_rfl⟩

def c_louperef23_with : LC :=
  (.seq (.reg [⟨some 3, .box t_api_File (.tmp 1), none, false⟩,
   ⟨some 4, .assign (.const (.slice none 0 0)), none, false⟩])
  (.seq (.weak (.reg [⟨some 9, .move (.tmp 0), none, false⟩,
   ⟨some 10, .fieldAddr t_api_File (.tmp 3) 0, none, false⟩,
   ⟨some 11, .load t_string (.tmp 10), none, false⟩,
   ⟨some 12, .call ⟨.value (.func f_louperef23_without), ⟨[(.tmp 9), (.tmp 11)]⟩, ⟨[t_L_api_File, t_string]⟩⟩, none, false⟩,
   ⟨some 5, .assign (.tmp 12), none, false⟩]))
  (.seq (.reg [⟨some 13, .buildSlice t_L_api_File 0 ⟨[]⟩, none, true⟩,
   ⟨some 6, .assign (.tmp 13), none, false⟩])
  (.seq (.reg [⟨some 7, .assign (.const (.bool false)), none, false⟩])
  (.seq (.seq (.reg [⟨some 8, .assign (.const (.int .i64 0)), none, false⟩])
  (.block 0 (.loop [false, false, false, true, false, true, true, true, true, false, false, false, false, false, false, false, false, false, false, false, false, false, false, false, false, false, false, false, false, false, false, false, false, false, false, false, false, false, false, false, false, false, false, false, false, false, false, false, false, false] none
   (.seq (.seq (.reg [⟨some 14, .move (.tmp 8), none, false⟩,
     ⟨some 15, .move (.tmp 5), none, false⟩,
     ⟨some 16, .call ⟨.builtin .len, ⟨[(.tmp 15)]⟩, ⟨[t_L_api_File]⟩⟩, none, false⟩,
     ⟨some 17, .binOp .lss t_int (.tmp 14) (.tmp 16) t_int, none, false⟩])
    (.cond (.tmp 17)
     .skip
     (.exit 0)))
    (.seq (.block 1 (.seq (.seq (.draw [⟨some 20, .move (.tmp 7), none, false⟩,
      ⟨some 21, .unOp .not t_bool (.tmp 20), none, false⟩,
      ⟨some 22, .move (.tmp 21), none, false⟩,
      ⟨some 23, .move (.tmp 5), some (some 22, true), false⟩,
      ⟨some 24, .move (.tmp 8), some (some 22, true), false⟩,
      ⟨some 25, .indexAddr t_L_api_File (.tmp 23) (.tmp 24), some (some 22, true), false⟩,
      ⟨some 26, .fieldAddr t_api_File (.tmp 25) 0, some (some 22, true), false⟩,
      ⟨some 27, .load t_string (.tmp 26), some (some 22, true), false⟩,
      ⟨some 28, .fieldAddr t_api_File (.tmp 3) 0, some (some 22, true), false⟩,
      ⟨some 29, .load t_string (.tmp 28), some (some 22, true), false⟩,
      ⟨some 30, .binOp .gtr t_string (.tmp 27) (.tmp 29) t_string, some (some 22, true), false⟩,
      ⟨some 31, .pick (.tmp 22) (.tmp 30) (.const (.bool false)), none, false⟩]
     [0, 0, 0, 0, 8, 0, 0, 0, 248, 248, 0, 0])
     (.cond (.tmp 31)
      (.seq (.reg [⟨some 32, .move (.tmp 6), none, false⟩,
       ⟨some 33, .load t_api_File (.tmp 3), none, false⟩,
       ⟨some 34, .buildSlice t_L_api_File 1 ⟨[(0, (.tmp 33))]⟩, none, false⟩,
       ⟨some 35, .call ⟨.builtin .append, ⟨[(.tmp 32), (.tmp 34)]⟩, ⟨[t_L_api_File, t_L_api_File]⟩⟩, none, false⟩,
       ⟨some 6, .assign (.tmp 35), none, false⟩])
      (.reg [⟨some 7, .assign (.const (.bool true)), none, false⟩]))
      .skip))
     (.reg [⟨some 36, .move (.tmp 6), none, false⟩,
      ⟨some 37, .move (.tmp 5), none, false⟩,
      ⟨some 38, .move (.tmp 8), none, false⟩,
      ⟨some 39, .indexAddr t_L_api_File (.tmp 37) (.tmp 38), none, false⟩,
      ⟨some 40, .load t_api_File (.tmp 39), none, false⟩,
      ⟨some 41, .buildSlice t_L_api_File 1 ⟨[(0, (.tmp 40))]⟩, none, false⟩,
      ⟨some 42, .call ⟨.builtin .append, ⟨[(.tmp 36), (.tmp 41)]⟩, ⟨[t_L_api_File, t_L_api_File]⟩⟩, none, false⟩,
      ⟨some 6, .assign (.tmp 42), none, false⟩])))
    (.reg [⟨some 18, .move (.tmp 8), none, false⟩,
     ⟨some 19, .binOp .add t_int (.tmp 18) (.const (.int .i64 1)) t_int, none, false⟩,
     ⟨some 8, .assign (.tmp 19), none, false⟩]))))))
  (.seq (.seq (.reg [⟨some 43, .move (.tmp 7), none, false⟩,
   ⟨some 44, .unOp .not t_bool (.tmp 43), none, false⟩])
  (.cond (.tmp 44)
   (.reg [⟨some 45, .move (.tmp 6), none, false⟩,
    ⟨some 46, .load t_api_File (.tmp 3), none, false⟩,
    ⟨some 47, .buildSlice t_L_api_File 1 ⟨[(0, (.tmp 46))]⟩, none, false⟩,
    ⟨some 48, .call ⟨.builtin .append, ⟨[(.tmp 45), (.tmp 47)]⟩, ⟨[t_L_api_File, t_L_api_File]⟩⟩, none, false⟩,
    ⟨some 6, .assign (.tmp 48), none, false⟩])
   .skip))
  (.seq (.reg [⟨some 49, .move (.tmp 6), none, false⟩,
   ⟨some 4, .assign (.tmp 49), none, false⟩])
  .ret)))))))
theorem k_louperef23_with : FnOk Try.prog f_louperef23_with 50 [.tmp 4] c_louperef23_with := ⟨_, _, Try.func102, by kernel_rfl, rfl, Try.ntmps102, rfl, by kernel_rfl⟩

def c_louperef23_without : LC :=
  (.seq (.reg [⟨some 4, .assign (.const (.slice none 0 0)), none, false⟩])
  (.seq (.reg [⟨some 7, .buildSlice t_L_api_File 0 ⟨[]⟩, none, true⟩,
   ⟨some 5, .assign (.tmp 7), none, false⟩])
  (.seq (.seq (.reg [⟨some 6, .assign (.const (.int .i64 0)), none, false⟩])
  (.block 0 (.loop [true, true, false, false, false, true, true, false, false, false, false, false, false, false, false, false, false, false, false, false, false, false, false, false, false, false, false, false, false] none
   (.seq (.seq (.reg [⟨some 8, .move (.tmp 6), none, false⟩,
     ⟨some 9, .move (.tmp 0), none, false⟩,
     ⟨some 10, .call ⟨.builtin .len, ⟨[(.tmp 9)]⟩, ⟨[t_L_api_File]⟩⟩, none, false⟩,
     ⟨some 11, .binOp .lss t_int (.tmp 8) (.tmp 10) t_int, none, false⟩])
    (.cond (.tmp 11)
     .skip
     (.exit 0)))
    (.seq (.block 1 (.seq (.reg [⟨some 14, .move (.tmp 0), none, false⟩,
      ⟨some 15, .move (.tmp 6), none, false⟩,
      ⟨some 16, .indexAddr t_L_api_File (.tmp 14) (.tmp 15), none, false⟩,
      ⟨some 17, .fieldAddr t_api_File (.tmp 16) 0, none, false⟩,
      ⟨some 18, .load t_string (.tmp 17), none, false⟩,
      ⟨some 19, .move (.tmp 1), none, false⟩,
      ⟨some 20, .binOp .neq t_string (.tmp 18) (.tmp 19) t_string, none, false⟩])
     (.cond (.tmp 20)
      (.reg [⟨some 21, .move (.tmp 5), none, false⟩,
       ⟨some 22, .move (.tmp 0), none, false⟩,
       ⟨some 23, .move (.tmp 6), none, false⟩,
       ⟨some 24, .indexAddr t_L_api_File (.tmp 22) (.tmp 23), none, false⟩,
       ⟨some 25, .load t_api_File (.tmp 24), none, false⟩,
       ⟨some 26, .buildSlice t_L_api_File 1 ⟨[(0, (.tmp 25))]⟩, none, false⟩,
       ⟨some 27, .call ⟨.builtin .append, ⟨[(.tmp 21), (.tmp 26)]⟩, ⟨[t_L_api_File, t_L_api_File]⟩⟩, none, false⟩,
       ⟨some 5, .assign (.tmp 27), none, false⟩])
      .skip)))
    (.reg [⟨some 12, .move (.tmp 6), none, false⟩,
     ⟨some 13, .binOp .add t_int (.tmp 12) (.const (.int .i64 1)) t_int, none, false⟩,
     ⟨some 6, .assign (.tmp 13), none, false⟩]))))))
  (.seq (.reg [⟨some 28, .move (.tmp 5), none, false⟩,
   ⟨some 4, .assign (.tmp 28), none, false⟩])
  .ret))))
theorem k_louperef23_without : FnOk Try.prog f_louperef23_without 29 [.tmp 4] c_louperef23_without := ⟨_, _, Try.func103, by kernel_rfl, rfl, Try.ntmps103, rfl, by kernel_rfl⟩

def c_cmp_Compare_string_ : LC :=
  (.seq (.reg [⟨some 4, .assign (.const (.int .i64 0)), none, false⟩])
  (.seq (.reg [⟨some 7, .move (.tmp 0), none, false⟩,
   ⟨some 8, .call ⟨.value (.func f_cmp_isNaN_string_), ⟨[(.tmp 7)]⟩, ⟨[t_string]⟩⟩, none, false⟩,
   ⟨some 5, .assign (.tmp 8), none, false⟩])
  (.seq (.reg [⟨some 9, .move (.tmp 1), none, false⟩,
   ⟨some 10, .call ⟨.value (.func f_cmp_isNaN_string_), ⟨[(.tmp 9)]⟩, ⟨[t_string]⟩⟩, none, false⟩,
   ⟨some 6, .assign (.tmp 10), none, false⟩])
  (.seq (.seq (.reg [⟨some 11, .move (.tmp 5), none, false⟩])
  (.cond (.tmp 11)
   (.seq (.seq (.reg [⟨some 12, .move (.tmp 6), none, false⟩])
   (.cond (.tmp 12)
    (.seq (.reg [⟨some 4, .assign (.const (.int .i64 0)), none, false⟩])
    .ret)
    .skip))
   (.seq (.reg [⟨some 4, .assign (.const (.int .i64 (-1))), none, false⟩])
   .ret))
   .skip))
  (.seq (.seq (.reg [⟨some 13, .move (.tmp 6), none, false⟩])
  (.cond (.tmp 13)
   (.seq (.reg [⟨some 4, .assign (.const (.int .i64 1)), none, false⟩])
   .ret)
   .skip))
  (.seq (.seq (.reg [⟨some 14, .move (.tmp 0), none, false⟩,
   ⟨some 15, .move (.tmp 1), none, false⟩,
   ⟨some 16, .binOp .lss t_string (.tmp 14) (.tmp 15) t_string, none, false⟩])
  (.cond (.tmp 16)
   (.seq (.reg [⟨some 4, .assign (.const (.int .i64 (-1))), none, false⟩])
   .ret)
   .skip))
  (.seq (.seq (.reg [⟨some 17, .move (.tmp 0), none, false⟩,
   ⟨some 18, .move (.tmp 1), none, false⟩,
   ⟨some 19, .binOp .gtr t_string (.tmp 17) (.tmp 18) t_string, none, false⟩])
  (.cond (.tmp 19)
   (.seq (.reg [⟨some 4, .assign (.const (.int .i64 1)), none, false⟩])
   .ret)
   .skip))
  (.seq (.reg [⟨some 4, .assign (.const (.int .i64 0)), none, false⟩])
  .ret))))))))
theorem k_cmp_Compare_string_ : FnOk Try.prog f_cmp_Compare_string_ 20 [.tmp 4] c_cmp_Compare_string_ := ⟨_, _, Try.func54, by kernel_rfl, rfl, Try.ntmps54, rfl, by kernel_rfl⟩

def c_cmp_isNaN_string_ : LC :=
  (.seq (.reg [⟨some 2, .assign (.const (.bool false)), none, false⟩])
  (.seq (.reg [⟨some 3, .move (.tmp 0), none, false⟩,
   ⟨some 4, .move (.tmp 0), none, false⟩,
   ⟨some 5, .binOp .neq t_string (.tmp 3) (.tmp 4) t_string, none, false⟩,
   ⟨some 2, .assign (.tmp 5), none, false⟩])
  .ret))
theorem k_cmp_isNaN_string_ : FnOk Try.prog f_cmp_isNaN_string_ 6 [.tmp 2] c_cmp_isNaN_string_ := ⟨_, _, Try.func91, by kernel_rfl, rfl, Try.ntmps91, rfl, by kernel_rfl⟩

def c_strings_TrimPrefix : LC :=
  (.seq (.reg [⟨some 4, .assign (.const (.string ⟨⟨[]⟩⟩)), none, false⟩])
  (.seq (.reg [⟨some 5, .move (.tmp 0), none, false⟩,
   ⟨some 6, .move (.tmp 1), none, false⟩,
   ⟨some 7, .call ⟨.value (.func f_stringslite_TrimPrefix), ⟨[(.tmp 5), (.tmp 6)]⟩, ⟨[t_string, t_string]⟩⟩, none, false⟩,
   ⟨some 4, .assign (.tmp 7), none, false⟩])
  .ret))
theorem k_strings_TrimPrefix : FnOk Try.prog f_strings_TrimPrefix 8 [.tmp 4] c_strings_TrimPrefix := ⟨_, _, Try.func85, by kernel_rfl, rfl, Try.ntmps85, rfl, by kernel_rfl⟩

def c_stringslite_TrimPrefix : LC :=
  (.seq (.reg [⟨some 4, .assign (.const (.string ⟨⟨[]⟩⟩)), none, false⟩])
  (.seq (.seq (.reg [⟨some 5, .move (.tmp 0), none, false⟩,
   ⟨some 6, .move (.tmp 1), none, false⟩,
   ⟨some 7, .call ⟨.value (.func f_stringslite_HasPrefix), ⟨[(.tmp 5), (.tmp 6)]⟩, ⟨[t_string, t_string]⟩⟩, none, false⟩])
  (.cond (.tmp 7)
   (.seq (.reg [⟨some 8, .move (.tmp 0), none, false⟩,
    ⟨some 9, .move (.tmp 1), none, false⟩,
    ⟨some 10, .call ⟨.builtin .len, ⟨[(.tmp 9)]⟩, ⟨[t_string]⟩⟩, none, false⟩,
    ⟨some 11, .slice t_string (.tmp 8) (some (.tmp 10)) none none, none, false⟩,
    ⟨some 4, .assign (.tmp 11), none, false⟩])
   .ret)
   .skip))
  (.seq (.reg [⟨some 12, .move (.tmp 0), none, false⟩,
   ⟨some 4, .assign (.tmp 12), none, false⟩])
  .ret)))
theorem k_stringslite_TrimPrefix : FnOk Try.prog f_stringslite_TrimPrefix 13 [.tmp 4] c_stringslite_TrimPrefix := ⟨_, _, Try.func106, by kernel_rfl, rfl, Try.ntmps106, rfl, by kernel_rfl⟩

def c_stringslite_HasPrefix : LC :=
  (.seq (.reg [⟨some 4, .assign (.const (.bool false)), none, false⟩])
  (.seq (.reg [⟨some 5, .move (.tmp 0), none, false⟩,
   ⟨some 6, .call ⟨.builtin .len, ⟨[(.tmp 5)]⟩, ⟨[t_string]⟩⟩, none, false⟩,
   ⟨some 7, .move (.tmp 1), none, false⟩,
   ⟨some 8, .call ⟨.builtin .len, ⟨[(.tmp 7)]⟩, ⟨[t_string]⟩⟩, none, false⟩,
   ⟨some 9, .binOp .geq t_int (.tmp 6) (.tmp 8) t_int, none, false⟩,
   ⟨some 10, .move (.tmp 9), none, false⟩,
   ⟨some 11, .move (.tmp 0), some (some 10, true), false⟩,
   ⟨some 12, .move (.tmp 1), some (some 10, true), false⟩,
   ⟨some 13, .call ⟨.builtin .len, ⟨[(.tmp 12)]⟩, ⟨[t_string]⟩⟩, some (some 10, true), false⟩,
   ⟨some 14, .slice t_string (.tmp 11) none (some (.tmp 13)) none, some (some 10, true), false⟩,
   ⟨some 15, .move (.tmp 1), some (some 10, true), false⟩,
   ⟨some 16, .binOp .eql t_string (.tmp 14) (.tmp 15) t_string, some (some 10, true), false⟩,
   ⟨some 17, .pick (.tmp 10) (.tmp 16) (.const (.bool false)), none, false⟩,
   ⟨some 4, .assign (.tmp 17), none, false⟩])
  .ret))
theorem k_stringslite_HasPrefix : FnOk Try.prog f_stringslite_HasPrefix 18 [.tmp 4] c_stringslite_HasPrefix := ⟨_, _, Try.func113, by kernel_rfl, rfl, Try.ntmps113, rfl, by kernel_rfl⟩

end Lp

/-! LpX -/

namespace Lp
open Go

/-- Cells of a type that can be read are values of this kind. -/
def Rd (P : Program) (t : TypeId) {α : Type} (enc : α → PV) (good : α → Prop) : Prop :=
  ∀ {H : Type} (eh : TypeId × Value → H) (w : World) (fuel : Nat) (cs : List Value) (x : DataW H × List MemPlace), DataW.trod eh P w 0 (fun _ => true) true fuel t cs = some x →
    (∀ n ∈ DataW.weights P t x.1, n ≤ reachBytes) → ∃ a : α, good a ∧ RepL (Rep w (fun _ => True)) (enc a).cells cs

variable {P : Program}

theorem repL_one {R : PV → Value → Prop} {p : PV} {v : Value} (h : R p v) : RepL R [p] [v] :=
  ⟨rfl, fun i q u h1 h2 => by
    cases i with
    | zero => simp at h1 h2; subst h1; subst h2; exact h
    | succ i => simp at h1⟩

theorem Rd.int {t : TypeId} {k : IntKind} (ht : P.underlying t = some (.int k)) : Rd P t (.int k) (inR k) := by
  intro H eh w fuel cs x h _
  obtain ⟨n, rfl, rfl, hw⟩ := DataW.trod_int ht h
  refine ⟨n, ?_, repL_one (.int k n)⟩
  simp only [Lit.wf, Bool.and_eq_true, decide_eq_true_eq] at hw
  cases k <;> simp only [IntKind.min, IntKind.max, IntKind.signed, IntKind.bits, inR] at hw ⊢ <;> first | exact ⟨by simpa using hw.1, by simpa using hw.2⟩ | (simp at hw; omega)

theorem Rd.bool {t : TypeId} (ht : P.underlying t = some .bool) : Rd P t PV.bool (fun _ => True) := by
  intro H eh w fuel cs x h _
  obtain ⟨b, rfl, rfl⟩ := DataW.trod_bool ht h
  exact ⟨b, trivial, repL_one (.bool b)⟩

theorem Rd.str {t : TypeId} (ht : P.underlying t = some .string) : Rd P t PV.str (fun s => s.length ≤ reachBytes) := by
  intro H eh w fuel cs x h hw
  obtain ⟨s, rfl, rfl, _⟩ := DataW.trod_string ht h
  refine ⟨s.data.toList, hw _ ?_, repL_one (rep_str w _ s)⟩
  rw [DataW.weights]; simp

theorem Rd.slice {t e : TypeId} {α : Type} [Inhabited α] {enc : α → PV} {good : α → Prop} {sz : Nat} (ht : P.underlying t = some (.slice e)) (he : Rd P e enc good) (hsz : P.cellsOf e = sz) (hpos : sz ≠ 0) (hc : ∀ a, (enc a).cells.length = sz) :
    Rd P t (fun l : List α => .sl sz (l.map enc) none) (fun l => l.length * P.bytesOf e ≤ reachBytes ∧ ∀ a ∈ l, good a) := by
  intro H eh w fuel cs x h hw
  rcases Go.Deep.open_slice ht h with ⟨rfl, rfl⟩ | ⟨a, len, cap, m, n, D, Pl, rfl, hb, hl, hm, hmm, rfl, hx⟩
  · exact ⟨[], by simp, repL_one (.slnil _ _ (by simp))⟩
  · simp only [if_true] at hmm
    subst hmm
    have hwt : ∀ i, i < len → ∀ n ∈ DataW.weights P e (D i), n ≤ reachBytes := by
      intro i hi n hn
      refine hw n ?_
      rw [DataW.weights, ht]
      simp only [List.mem_cons, List.mem_append]
      right; left
      have key : ∀ (l : List (DataW H)) d, d ∈ l → n ∈ DataW.weights P e d → n ∈ DataW.weightsAll P e l := by
        intro l
        induction l with
        | nil => intro d hd; cases hd
        | cons y ys ih =>
          intro d hd hn
          rw [DataW.weightsAll, List.mem_append]
          rcases List.mem_cons.1 hd with rfl | hd
          · exact .inl hn
          · exact .inr (ih d hd hn)
      exact key _ (D i) (List.mem_map.2 ⟨i, List.mem_range.2 hi, rfl⟩) hn
    have hlen : (len : Nat) * P.bytesOf e ≤ reachBytes := by
      have := hw ((((List.range len).map D).length + ((List.range (m - len)).map fun j => D (len + j)).length) * P.bytesOf e) (by rw [DataW.weights, ht]; exact List.mem_cons_self)
      simp only [List.length_map, List.length_range] at this
      exact Nat.le_trans (Nat.mul_le_mul_right _ (by omega)) this
    obtain ⟨f, hf⟩ : ∃ f : Nat → α × List Value, ∀ i, i < len → good (f i).1 ∧ w.cells? 0 (a.add (i * P.cellsOf e)) (P.cellsOf e) = some (f i).2 ∧ RepL (Rep w (fun _ => True)) (enc (f i).1).cells (f i).2 := by
      have hex : ∀ i, i < len → ∃ y : α × List Value, good y.1 ∧ w.cells? 0 (a.add (i * P.cellsOf e)) (P.cellsOf e) = some y.2 ∧ RepL (Rep w (fun _ => True)) (enc y.1).cells y.2 := by
        intro i hi
        obtain ⟨cs', h1, h2⟩ := hx i (by omega)
        obtain ⟨y, g1, g2⟩ := he eh w n cs' _ h2 (hwt i hi)
        exact ⟨(y, cs'), g1, h1, g2⟩
      exact Go.Deep.choose_lt hex
    rcases Nat.eq_zero_or_pos len with h0 | h0
    · subst h0
      exact ⟨[], by simp, repL_one (.slz _ _ (by simp) a m hm)⟩
    have hspot : a.spot = none := by
      obtain ⟨_, h2, h3⟩ := hf 0 h0
      obtain ⟨_, g1, g2⟩ := World.cells?_some h2
      have := g2 0 (by omega)
      rw [List.getElem?_eq_getElem (by omega)] at this
      have := World.cell?_spot this
      simpa [Addr.add] using this
    obtain ⟨b, off, spot⟩ := a
    simp only at hspot
    subst hspot
    have hcells : ∀ i, i < len → ∀ j, j < sz → w.cell? ⟨b, off + i * sz + j, none⟩ = (f i).2[j]? := by
      intro i hi j hj
      obtain ⟨_, h2, _⟩ := hf i hi
      obtain ⟨_, _, g2⟩ := World.cells?_some h2
      have := g2 j (by omega)
      rw [hsz, add_lit, add_lit] at this
      exact this
    have hget : ∀ (i : Nat) (x : PV), (((List.range len).map fun i => (f i).1).map enc)[i]? = some x → i < len ∧ x = enc (f i).1 := by
      intro i x hx
      have hi : i < len := by
        have := (List.getElem?_eq_some_iff.1 hx).1
        simpa using this
      rw [List.getElem?_map, List.getElem?_map, List.getElem?_range hi] at hx
      simp only [Option.map_some, Option.some.injEq] at hx
      exact ⟨hi, hx.symm⟩
    have hL : (((List.range len).map fun i => (f i).1).map enc).length = len := by simp
    refine ⟨(List.range len).map fun i => (f i).1, ⟨by simpa using hlen, fun y hy => ?_⟩, repL_one ?_⟩
    · obtain ⟨i, hi, rfl⟩ := List.mem_map.1 hy
      exact (hf i (List.mem_range.1 hi)).1
    · have : Rep w (fun _ => True) (.sl sz (((List.range len).map fun i => (f i).1).map enc) none) (.slice (some ⟨b, off, none⟩) (((List.range len).map fun i => (f i).1).map enc).length m) := by
        refine .sl sz _ none (by simp) b off m (fun i j => (f i).2.getD j undef) (fun _ => ⟨trivial, ?_⟩) (by rw [hL]; exact hl) hm (fun i x hx => ?_) (fun i x j p hx hp => ?_) (fun i x j p hx hp => ?_)
        · have := hcells 0 h0 0 (by omega)
          obtain ⟨_, h2, _⟩ := hf 0 h0
          obtain ⟨_, g1, _⟩ := World.cells?_some h2
          rw [List.getElem?_eq_getElem (by omega)] at this
          unfold World.cell? at this
          simp only at this
          cases hb' : w.heap[b]? with
          | none => rw [hb'] at this; simp at this
          | some o => exact (Array.getElem?_eq_some_iff.1 hb').1
        · obtain ⟨_, rfl⟩ := hget i x hx
          exact hc _
        · obtain ⟨hi, rfl⟩ := hget i x hx
          have hj : j < sz := by rw [← hc (f i).1]; exact (List.getElem?_eq_some_iff.1 hp).1
          rw [hcells i hi j hj]
          obtain ⟨_, h2, _⟩ := hf i hi
          obtain ⟨_, g1, _⟩ := World.cells?_some h2
          rw [List.getD_eq_getElem?_getD, List.getElem?_eq_getElem (by omega)]
          rfl
        · obtain ⟨hi, rfl⟩ := hget i x hx
          have hj : j < sz := by rw [← hc (f i).1]; exact (List.getElem?_eq_some_iff.1 hp).1
          obtain ⟨_, h2, h3⟩ := hf i hi
          obtain ⟨_, g1, _⟩ := World.cells?_some h2
          exact h3.2 j p _ hp (by rw [List.getD_eq_getElem?_getD, List.getElem?_eq_getElem (by omega)]; rfl)
      rw [hL] at this
      exact this


theorem weightsEach_mem {H : Type} {n : Nat} : ∀ (ts : List TypeId) (ds : List (DataW H)) (i : Nat) (t : TypeId) (d : DataW H), ts[i]? = some t → ds[i]? = some d → n ∈ DataW.weights P t d → n ∈ DataW.weightsEach P ts ds
  | [], _, i, t, d, h, _, _ => by simp at h
  | _ :: _, [], i, t, d, _, h, _ => by simp at h
  | t' :: ts, d' :: ds, i, t, d, h1, h2, hn => by
    rw [DataW.weightsEach, List.mem_append]
    cases i with
    | zero => simp at h1 h2; subst h1; subst h2; exact .inl hn
    | succ i => exact .inr (weightsEach_mem ts ds i t d (by simpa using h1) (by simpa using h2) hn)

/-- A struct's fields, read. -/
theorem struct_parts {H : Type} {eh : TypeId × Value → H} {w : World} {fuel : Nat} {t : TypeId} {fs : Array Field} {cs : List Value} {x : DataW H × List MemPlace} (ht : P.underlying t = some (.struct fs))
    (h : DataW.trod eh P w 0 (fun _ => true) true fuel t cs = some x) (hw : ∀ n ∈ DataW.weights P t x.1, n ≤ reachBytes) :
    cs.length = P.cellsOf t ∧ ∀ (i off : Nat) (e : TypeId), (fs.toList.map fun f => (f.offset, f.type))[i]? = some (off, e) → ∃ n y, DataW.trod eh P w 0 (fun _ => true) true n e ((cs.drop off).take (P.cellsOf e)) = some y ∧ (∀ m ∈ DataW.weights P e y.1, m ≤ reachBytes) := by
  obtain ⟨xs, n, _, rfl, hl, hlen, hf⟩ := DataW.trod_struct ht h
  refine ⟨hl, fun i off e he => ?_⟩
  rw [List.getElem?_map] at he
  cases hfi : fs.toList[i]? with
  | none => rw [hfi] at he; simp at he
  | some f =>
    rw [hfi] at he
    simp only [Option.map_some, Option.some.injEq, Prod.mk.injEq] at he
    obtain ⟨rfl, rfl⟩ := he
    have hfi' : fs[i]? = some f := by simpa using hfi
    have hi : i < xs.length := by rw [hlen]; exact (Array.getElem?_eq_some_iff.1 hfi').1
    have h1 := hf i f hfi'
    rw [List.getElem?_eq_getElem hi] at h1
    refine ⟨n, xs[i], h1, fun m hm => hw m ?_⟩
    rw [DataW.weights, ht]
    exact weightsEach_mem _ _ i f.type xs[i].1 (by rw [List.getElem?_map, hfi]; rfl) (by rw [List.getElem?_map, List.getElem?_eq_getElem hi]; rfl) hm

/-! ### A law -/

/-- Rows of arguments stay as they read. -/
theorem trodAll_stays {H : Type} {eh : TypeId × Value → H} (hl : laidOutB P = true) {W W' : World} (hb : ∀ b, b < W.heap.size → W'.heap[b]? = W.heap[b]?) :
    ∀ (ts : List TypeId) (vs : List Value) (ds : List (DataW H)) (ps : List MemPlace), (∀ t ∈ ts, P.readableRec t = true ∧ t < P.types.size) → DataW.TrodAll eh P W 0 (fun _ => true) true ts vs ds ps →
      DataW.TrodAll eh P W' 0 (fun b => decide (b < W.heap.size)) true ts vs ds ps
  | [], [], [], ps, _, h => h
  | t :: ts, v :: vs, d :: ds, ps, hr, ⟨p, q, h1, h2, h3⟩ => by
    have hlt : ∀ x ∈ p, x.block < W.heap.size := by obtain ⟨m, hm⟩ := h1; exact DataW.trod_lt m _ _ _ hm
    refine ⟨p, q, Go.WideElems.Trod_stays hl (hr t (by simp)).1 (hr t (by simp)).2 h1 (fun x hx => ?_) (fun x hx => by simpa using hlt x hx), trodAll_stays hl hb ts vs ds q (fun t ht => hr t (by simp [ht])) h2, h3⟩
    cases x with
    | cell b o => exact World.cell?_of_block (w := W) (hb b (hlt _ hx))
    | map b => exact hb b (hlt _ hx)
  | [], _ :: _, _, _, _, h => h.elim
  | [], [], _ :: _, _, _, h => h.elim
  | _ :: _, [], _, _, _, h => h.elim
  | _ :: _, _ :: _, [], _, _, h => h.elim

/-- Arguments that can be read are pure values of which a contract holds: then the law holds. -/
theorem law_lifted {C : Checked} {os : Os} {H : Type} {enc : TypeId × Value → H} {f : FuncId} {fn : Func} {s : ChangeSpec} {tb : TypeId}
    (own : ownKnob C.prog.godebug = none) (started : os.Started) (noInit : C.prog.inits.idxOf? f = none) (hfn : C.prog.funcs[f]? = some fn)
    (witness : ∃ (w : World) (tape : Tape) (i : Input), w.os = os ∧ (w.forCall tape i).Shaped C.prog ∧ i.vars = [] ∧ Input.okWide C.prog (w.forCall tape i) .any w.heap.size f i ∧
      s.pre6 enc C.prog fn [] false (w.forCall tape i).memory i.args ∧ ({} : Assume).holds C.prog (lone (Frame.enter C.prog f i.args .normal) [] (w.forCall tape i)))
    (hlaid : laidOutB C.prog = true) (hr : ∀ t ∈ fn.params.toList, C.prog.readableRec t = true ∧ t < C.prog.types.size)
    (hres : fn.resultTypes.toList = [tb]) (hsz : fn.resultTypes.size = 1) (hb : C.prog.underlying tb = some .bool)
    (hvars : s.vars = []) (hpl : s.plain.varTypes C.prog = []) (hs : ∀ ds : List (DataW H), ds.length = fn.params.toList.length → s.fn H ds = { results := [.lit (.bool true)], args := ds })
    (hread : ∀ (W : World) (base : Nat) (args : List Value) (ds : List (DataW H)) (ps : List MemPlace), (∀ (j : Nat) t v, fn.params[j]? = some t → args[j]? = some v → Value.okWide C.prog W .any base t v) → DataW.TrodAll enc C.prog W 0 (fun _ => true) true fn.params.toList args ds ps → (∀ n ∈ DataW.weightsEach C.prog fn.params.toList ds, n ≤ reachBytes) →
      ∃ pvs, RepL (Rep W (fun _ => True)) pvs args ∧ FnSpec C.prog f pvs [] (.bool true) []) :
    ReturnsInHanded {} C os f .any (s.pre6 enc C.prog fn [] false) (s.post enc C.prog fn false true false false) := by
  refine returnsInHanded_of_change_sized (C := C) own started noInit hfn witness ?_
  intro W base args ds gs before hval hW _ hsize _
  have hW' := hW
  obtain ⟨p, q, hA, hV, rfl, hfz, hnd⟩ := hW
  rw [hvars] at hV
  obtain ⟨rfl, rfl⟩ := Go.ChangeShapes.trodVars_none hV
  have hlen : ds.length = fn.params.toList.length := by
    have : ∀ (ts : List TypeId) (vs : List Value) (ds : List (DataW H)) (ps : List MemPlace), DataW.TrodAll enc C.prog W 0 (fun _ => true) true ts vs ds ps → ds.length = ts.length := by
      intro ts
      induction ts with
      | nil => intro vs ds ps h; cases vs <;> cases ds <;> simp [DataW.TrodAll] at h ⊢
      | cons t ts ih =>
        intro vs ds ps h
        cases vs <;> cases ds <;> simp [DataW.TrodAll] at h ⊢
        obtain ⟨_, _, _, h2, _⟩ := h
        exact ih _ _ _ h2
    exact this _ _ _ _ hA
  rw [hpl, List.append_nil, List.append_nil, List.all_eq_true] at hsize
  obtain ⟨pvs, hrep, hspec⟩ := hread W base args.toList ds p (fun j t v h1 h2 => hval j t v h1 (by simpa using h2)) hA (fun n hn => by simpa using hsize n hn)
  have hargs : RepL (RepT W (okL (fun _ => True) [] (fun _ => none)) [] (fun _ => none)) pvs args.toList :=
    ⟨hrep.1, fun i p v a b => .of_rep ((hrep.2 i p v a b).anyOk fun _ _ _ => ⟨trivial, notLive_nil _ _⟩)⟩
  have hc := hspec.2 W (fun _ => none) args.toList (fun _ => True) (fun _ _ => trivial) (nilObjs _ _ _ _) hargs
  refine Calls.mono hc fun e W' ⟨v, blk', he, _, hv, hheap, hsize', hsm⟩ => ?_
  subst he
  have hv' := hv.bool
  subst hv'
  have hkeep : ∀ b, b < W.heap.size → W'.heap[b]? = W.heap[b]? := fun b hb => hheap b hb (notLive_nil _ _)
  refine ⟨_, rfl, ds, [], p ++ [], [], p, [], hW', ?_, ?_, ?_, ?_, fun h => by cases h⟩
  · rw [List.append_nil, hs ds hlen, hres, hsz]
    exact Go.ChangeShapes.trodAll_mk1 (Go.RowKit.shut_bool hb true)
  · rw [List.append_nil, hs ds hlen]
    exact trodAll_stays hlaid hkeep _ _ _ _ hr hA
  · rw [hvars, List.append_nil, hs ds hlen]; rfl
  · refine ⟨hsm.1, hsm.2, fun i hi => ?_⟩
    rw [hkeep i hi]
    split <;> simp_all

end Lp

/-! LpUse -/

namespace Lp
open Go
variable {P : Program} {D : TypeId → TInfo} {T : Know}

/-- What a function knows that is handed n objects of its caller. -/
def Know.use (T : Know) (n : Nat) : Know := { T with nx := n, top := false }

def Euse (n : Nat) : Env := fun _ _ V => ∀ w0, V w0 → w0.nx ≤ n

theorem KOk.use {n : Nat} (h : TabOk P T.fn) (hy : T.Y = fun _ _ _ => False) (hg : ∀ g cap ys, T.gives g cap ys → Gives P g cap ys) : KOk P none (Euse n) (T.use n) :=
  ⟨h, fun _ _ _ _ _ _ _ _ _ _ _ _ _ _ h => by
    have h' : T.Y _ _ _ := h
    rw [hy] at h'
    exact h'.elim, fun _ _ _ hE w0 hw => hE w0 hw, (fun h => by cases h), hg⟩

/-- A function ends: its one result, and the objects it leaves. -/
def retU (t : Nat) (r : PV) (objs' : List Obj) (e : Exit) (S : St) : Prop :=
  (e = .normal ∨ e = .ret) ∧ S.tmps.getD t .dead = r ∧ S.objs = objs'

theorem FnUse.of_body {f : FuncId} {fn : Func} {c : Code} {C : LC} {args : List PV} {r : PV} {objs objs' : List Obj} {t n : Nat} (hD : ∀ t, TOk P t (D t)) (hT : KOk P none (Euse objs.length) T) (hm : P.follows .mixedOrders = true)
    (hf : P.funcs[f]? = some fn) (hname : (fn.name == "runtime.NumGoroutine") = false) (hb : fn.body = some c) (hn : fn.ntmps = n) (hr : fn.results = #[.tmp t]) (hC : strip C = comp c) (hlen : objs'.length = objs.length)
    (h : wpc P D T C (retU t r objs') ⟨(startS args n).tmps, objs⟩) : FnUse P f args objs r objs' := by
  refine ⟨⟨fn, hf, hname, by rw [hb]; rfl⟩, hlen, fun base prot w0 tmps blk a w vs R hargs => ?_⟩
  have hpw : PW P none (Euse objs.length) c (retU t r objs') ⟨(startS args n).tmps, objs⟩ := wpc_sound hD hm C _ _ _ c _ _ hT hC h
  have hpp : ∀ b, prot b → b < w.heap.size ∧ notLive objs blk b := fun b hb => ⟨Nat.lt_of_lt_of_le (R.pr b hb) R.gr, fun k o h1 h2 h3 => R.objs.np k o b h1 h2 h3 hb⟩
  have hz : ∀ x ∈ tmps.zip a.tmps.toList, RepT w (okL base objs blk) objs blk x.1 x.2 := by
    intro x hx
    obtain ⟨i, hi, rfl⟩ := List.mem_iff_getElem.1 hx
    have hi' : i < tmps.length ∧ i < a.tmps.toList.length := by
      rw [List.length_zip] at hi
      omega
    rw [List.getElem_zip]
    have := R.tm i tmps[i] (List.getElem?_eq_getElem hi'.1)
    have e : a.tmps.getD i undef = a.tmps.toList[i] := by
      rw [Array.getD_eq_getD_getElem?, Array.getElem?_eq_getElem (by simpa using hi'.2)]; simp
    rw [e] at this
    exact this
  have R2 : Rel base (fun b => b < w.heap.size ∧ notLive objs blk b) ⟨w.heap, tmps.zip a.tmps.toList ++ w0.xs, objs.length, w⟩ ⟨(startS args n).tmps, objs⟩ blk { tmps := (⟨vs⟩ : Array Value) ++ Array.replicate (n - (⟨vs⟩ : Array Value).size) undef, defers := [] } w := by
    have hl := hargs.1
    have hext : ∀ x ∈ tmps.zip a.tmps.toList ++ w0.xs, RepT w (okL base objs blk) objs blk x.1 x.2 := fun x hx => by
      rcases List.mem_append.1 hx with hx | hx
      · exact hz x hx
      · exact R.ext x hx
    refine ⟨.nil _ _, ?_, fun t p hp => ?_, ⟨R.objs.ob, R.objs.dis, fun k o g h1 h2 h3 hp => hp.2 k o h1 h2 h3⟩, fun b hb => hb.1, fun _ _ => rfl, Nat.le_refl _, fun b hn => ?_, hext, fun x hx => repT_lt (hext x hx), .refl w⟩
    · simp [startS, hl]
    · simp only [startS] at hp
      rw [List.getElem?_append] at hp
      split at hp
      · rename_i ht
        obtain ⟨v, hv⟩ : ∃ v, vs[t]? = some v := ⟨vs[t]'(by omega), List.getElem?_eq_getElem (by omega)⟩
        have hg : ((⟨vs⟩ : Array Value) ++ Array.replicate (n - (⟨vs⟩ : Array Value).size) undef).getD t undef = v := by
          rw [Array.getD_eq_getD_getElem?, Array.getElem?_append, if_pos (by simpa using (by omega : t < vs.length))]
          simp [hv]
        rw [hg]
        exact hargs.2 t p v hp hv
      · rw [List.getElem?_replicate] at hp
        split at hp
        · cases hp; exact .dead _
        · cases hp
    · rcases Nat.lt_or_ge b w.heap.size with h1 | h1
      · refine R.pb b fun hp => hn (hpp b hp)
      · exact R.bs b (Nat.le_trans R.gr h1)
  have hw := hpw base _ (fun x => (⟨w.heap, tmps.zip a.tmps.toList ++ w0.xs, objs.length, w⟩ : Wz) = x) (by rintro z rfl; exact Nat.le_refl _) _ _ _ ⟨_, rfl, R2⟩
  rw [← callsIn_wide (n := 0)]
  refine callsIn_of_wp_marks hf hb trivial ?_
  rw [hn]
  refine wpIn_mono hw ?_
  rintro e a' w' ⟨S', blk', ⟨he, ho, hobj⟩, _, rfl, R'⟩
  have key : ∀ w', Rel base (fun b => b < w.heap.size ∧ notLive objs blk b) ⟨w.heap, tmps.zip a.tmps.toList ++ w0.xs, objs.length, w⟩ S' blk' { a' with defers := [] } w' →
      ∃ v, (results fn a'.tmps).run P w' = .ok v w' ∧ (∃ v' blk', Ending.returned v = .returned v' ∧ Rel base prot w0 ⟨tmps, objs'⟩ blk' a w' ∧ RepT w' (okL base objs' blk') objs' blk' r v') := by
    intro w' R'
    have hx := R'.ev (.tmp t)
    change RepT w' _ _ blk' (S'.tmps.getD t .dead) (a'.tmps.getD t undef) at hx
    rw [ho, hobj] at hx
    refine ⟨_, results_tmp hr _ _ _, _, blk', rfl, ?_, hx⟩
    have hpr : ∀ b, b < w.heap.size ∧ notLive objs blk b → w'.heap[b]? = w.heap[b]? := fun b hb => R'.fr b hb
    obtain ⟨Ds, e1, e2, e3⟩ := R.nodef
    have ob := R'.objs
    have ex := R'.ext
    rw [hobj] at ob ex
    refine ⟨⟨Ds, e1, e2, fun b hb => ?_⟩, R.tsz, fun t p hp => ?_, ⟨ob.ob, ob.dis, fun k o g h1 h2 h3 hp => ob.np k o g h1 h2 h3 (hpp g hp)⟩, R.pr, fun b hb => ?_, Nat.le_trans R.gr R'.gr, R.pb, fun x hx => ex x (List.mem_append_right _ hx), R.exn, R.sm.trans R'.sm⟩
    · obtain ⟨h1, h2, h3⟩ := e3 b hb
      have hpb : b < w.heap.size ∧ notLive objs blk b := ⟨(Array.getElem?_eq_some_iff.1 h1).1, h2.2⟩
      exact ⟨by rw [hpr b hpb]; exact h1, ⟨h2.1, fun k o g1 g2 g3 => ob.np k o b g1 g2 g3 hpb⟩, h3⟩
    · refine ex (p, a.tmps.getD t undef) (List.mem_append_left _ ?_)
      have hlt : t < tmps.length := (List.getElem?_eq_some_iff.1 hp).1
      have htz : t < a.tmps.size := by rw [R.tsz]; exact hlt
      refine List.mem_iff_getElem.2 ⟨t, by rw [List.length_zip, Array.length_toList]; exact Nat.lt_min.2 ⟨hlt, htz⟩, ?_⟩
      rw [List.getElem_zip]
      have e : a.tmps.getD t undef = a.tmps.toList[t]'(by simpa using htz) := by
        rw [Array.getD_eq_getD_getElem?, Array.getElem?_eq_getElem htz]; simp
      rw [e, (List.getElem?_eq_some_iff.1 hp).2]
    · rw [hpr b (hpp b hb)]; exact R.fr b hb
  rcases he with rfl | rfl <;> exact leaves_of _ _ R' key

theorem FnOk.use {f : FuncId} {n t : Nat} {C : LC} {args : List PV} {r : PV} {objs objs' : List Obj} (h : FnOk P f n [.tmp t] C) (hD : ∀ t, TOk P t (D t)) (hT : TabOk P T.fn) (hy : T.Y = fun _ _ _ => False)
    (hg : ∀ g cap ys, T.gives g cap ys → Gives P g cap ys) (hm : P.follows .mixedOrders = true) (hlen : objs'.length = objs.length)
    (hw : wpc P D (T.use objs.length) C (retU t r objs') ⟨(startS args n).tmps, objs⟩) : FnUse P f args objs r objs' := by
  obtain ⟨fn, c, h1, h2, h3, h4, h5, h6⟩ := h
  exact FnUse.of_body hD (.use hT hy hg) hm h1 h2 h3 h4 h5 h6 hlen hw

end Lp

/-! LpY -/

namespace Lp
open Go

/-- If .. then .. else, of statements. -/
def ifP (b : Bool) (X Y : Prop) : Prop := (b = true → X) ∧ (b = false → Y)

@[congr] theorem ifP_congr {b b' : Bool} {X Y : Prop} (h : b = b') : ifP b X Y = ifP b' X Y := by rw [h]

theorem ifP_def {b : Bool} {X Y : Prop} : ifP b X Y = ((b = true → X) ∧ (b = false → Y)) := rfl

theorem ifR :
    (∀ X Y, ifP true X Y = X) ∧ (∀ X Y, ifP false X Y = Y) ∧
    (∀ (p : Prop) [Decidable p] X Y, ifP (decide p) X Y = ((p → X) ∧ (¬ p → Y))) ∧
    (∀ b X Y, ifP (!b) X Y = ifP b Y X) ∧
    (∀ a b X Y, ifP (a && b) X Y = ifP a (ifP b X Y) Y) ∧
    (∀ a b X Y, ifP (a || b) X Y = ifP a X (ifP b X Y)) ∧
    (∀ (x y : List UInt8) X Y, ifP (x == y) X Y = ((x = y → X) ∧ (x ≠ y → Y))) ∧
    (∀ (x y : Bool) X Y, ifP (x == y) X Y = ((x = y → X) ∧ (x ≠ y → Y))) := by
  refine ⟨fun X Y => ?_, fun X Y => ?_, fun p _ X Y => ?_, fun b X Y => ?_, fun a b X Y => ?_, fun a b X Y => ?_, fun x y X Y => ?_, fun x y X Y => ?_⟩
  · simp [ifP]
  · simp [ifP]
  · simp [ifP]
  · cases b <;> simp [ifP]
  · cases a <;> simp [ifP]
  · cases a <;> simp [ifP]
  · simp [ifP]
  · simp [ifP]

theorem exR2 :
    (∀ (n : St → Prop) (Q : Exit → St → Prop) S, thenS n Q .normal S = n S) ∧
    (∀ (n : St → Prop) (Q : Exit → St → Prop) S, thenS n Q .ret S = Q .ret S) ∧
    (∀ (n : St → Prop) (Q : Exit → St → Prop) S id, thenS n Q (.exit id) S = Q (.exit id) S) ∧
    (∀ (Q : Exit → St → Prop) S id, blockS id Q .normal S = Q .normal S) ∧
    (∀ (Q : Exit → St → Prop) S id, blockS id Q .ret S = Q .ret S) ∧
    (∀ (Q : Exit → St → Prop) S id id', blockS id Q (.exit id') S = if id' = id then Q .normal S else Q (.exit id') S) ∧
    (∀ b X Y, condR (.bool b) X Y = ifP b X Y) :=
  ⟨fun _ _ _ => rfl, fun _ _ _ => rfl, fun _ _ _ _ => rfl, fun _ _ _ => rfl, fun _ _ _ => rfl, fun _ _ _ _ => rfl, fun _ _ _ => rfl⟩

theorem guR2 :
    (∀ (S : St) (X Y : St → Prop), guardT none S X Y = X S) ∧
    (∀ d w (S : St) (X Y : St → Prop), guardT (some (some d, w)) S X Y = guardV (S.tmps.getD d .dead) d w S X Y) ∧
    (∀ b d (S : St) (X Y : St → Prop), guardV (.bool b) d true S X Y = ifP b (X { S with tmps := S.tmps.set d (.bool true) }) (Y { S with tmps := S.tmps.set d (.bool false) })) ∧
    (∀ b d (S : St) (X Y : St → Prop), guardV (.bool b) d false S X Y = ifP b (Y { S with tmps := S.tmps.set d (.bool true) }) (X { S with tmps := S.tmps.set d (.bool false) })) ∧
    (∀ d w (S : St) (X Y : St → Prop), guardV (.tup []) d w S X Y = Y S) :=
  ⟨fun _ _ _ => rfl, fun _ _ _ _ _ => rfl, fun _ _ _ _ _ => rfl, fun b _ _ _ _ => by cases b <;> simp [guardV, ifP], fun _ _ _ _ _ => rfl⟩

/-- What comes behind a loop, out of simp's sight. -/
structure HQ (C : LC) (Q : Exit → St → Prop) : Type where

def wpcH (P : Program) (D : TypeId → TInfo) (T : Know) {C : LC} {Q : Exit → St → Prop} (_h : HQ C Q) (S : St) : Prop := wpc P D T C Q S

theorem hoR (P : Program) (D : TypeId → TInfo) (T : Know) :
    (∀ ks fz c (Q : Exit → St → Prop) S, wpc P D T (.loop ks fz c) Q S = wpcH P D T (HQ.mk : HQ (.loop ks fz c) Q) S) ∧
    (∀ c (Q : Exit → St → Prop) S, wpc P D T (.weak c) Q S = wpcH P D T (HQ.mk : HQ (.weak c) Q) S) ∧
    (∀ f ps fz x y (Q : Exit → St → Prop) S, wpc P D T (.rf f ps fz x y) Q S = wpcH P D T (HQ.mk : HQ (.rf f ps fz x y) Q) S) :=
  ⟨fun _ _ _ _ _ => rfl, fun _ _ _ => rfl, fun _ _ _ _ _ _ _ => rfl⟩

/-! ### Temporaries by what was laid into them last -/

def lkA : List (Nat × PV) → Nat → PV
  | [], _ => .dead
  | (j, p) :: l, i => if i = j then p else lkA l i

def tmA (n : Nat) (l : List (Nat × PV)) : List PV := (List.range n).map (lkA l)

theorem tmA_length (n : Nat) (l : List (Nat × PV)) : (tmA n l).length = n := by simp [tmA]

theorem tmA_get (n : Nat) (l : List (Nat × PV)) (i : Nat) : (tmA n l)[i]? = if i < n then some (lkA l i) else none := by
  simp only [tmA, List.getElem?_map]
  split
  · rename_i h; rw [List.getElem?_range h]; rfl
  · rename_i h; rw [List.getElem?_eq_none (by simpa using h)]; rfl

theorem tmA_ext {n : Nat} {l : List (Nat × PV)} {m : List PV} (hm : m.length = n) (h : ∀ i, i < n → m[i]? = some (lkA l i)) : m = tmA n l := by
  refine List.ext_getElem? fun i => ?_
  rw [tmA_get]
  split
  · rename_i hi; exact h i hi
  · rename_i hi; exact List.getElem?_eq_none (by omega)

def frzA (d n : Nat) (objs : List Obj) : List (Nat × PV) → List (Nat × PV)
  | [] => []
  | (j, p) :: l => (j, frzT d n objs p) :: frzA d n objs l

def fgA (ks : List Bool) : List (Nat × PV) → List (Nat × PV)
  | [] => []
  | (j, p) :: l => if ks[j]? = some true then (j, p) :: fgA ks l else fgA ks l

theorem lkA_frz (d n : Nat) (objs : List Obj) : ∀ (l : List (Nat × PV)) i, lkA (frzA d n objs l) i = frzT d n objs (lkA l i)
  | [], i => by simp [lkA, frzA, frzT, frz]
  | (j, p) :: l, i => by
    simp only [lkA, frzA]
    split
    · rfl
    · exact lkA_frz d n objs l i

theorem lkA_fg (ks : List Bool) : ∀ (l : List (Nat × PV)) i, lkA (fgA ks l) i = if ks[i]? = some true then lkA l i else .dead
  | [], i => by simp [lkA, fgA]
  | (j, p) :: l, i => by
    have ih := lkA_fg ks l i
    simp only [fgA]
    split
    · rename_i h
      simp only [lkA]
      by_cases hij : i = j
      · subst hij; simp [h]
      · simp only [hij, if_false, ih]
    · rename_i h
      rw [ih]
      by_cases hij : i = j
      · subst hij; simp [h]
      · simp [lkA, hij]

theorem fgt_get? : ∀ (ks : List Bool) (l : List PV) (i : Nat), (fgt ks l)[i]? = l[i]?.map fun p => if ks[i]? = some true then p else .dead
  | ks, [], i => by cases ks <;> simp [fgt]
  | [], p :: ps, 0 => by simp [fgt]
  | [], p :: ps, i + 1 => by simpa [fgt] using fgt_get? [] ps i
  | true :: ks, p :: ps, 0 => by simp [fgt]
  | false :: ks, p :: ps, 0 => by simp [fgt]
  | true :: ks, p :: ps, i + 1 => by simpa [fgt] using fgt_get? ks ps i
  | false :: ks, p :: ps, i + 1 => by simpa [fgt] using fgt_get? ks ps i

theorem lkR :
    (∀ i p l, lkA ((i, p) :: l) i = p) ∧ (∀ i j p l, (i == j) = false → lkA ((j, p) :: l) i = lkA l i) ∧ (∀ i, lkA [] i = .dead) := by
  refine ⟨fun i p l => by simp [lkA], fun i j p l h => ?_, fun _ => rfl⟩
  simp only [lkA]
  rw [if_neg (by simpa using h)]

theorem taR2 :
    (∀ n l i p, (tmA n l).set i p = tmA n ((i, p) :: l)) ∧
    (∀ n l i, i < n → (tmA n l).getD i .dead = lkA l i) ∧
    (∀ n l d k objs, (tmA n l).map (frzT d k objs) = tmA n (frzA d k objs l)) ∧
    (∀ ks n l, fgt ks (tmA n l) = tmA n (fgA ks l)) ∧
    (∀ d n objs, frzA d n objs [] = []) ∧ (∀ d n objs j p l, frzA d n objs ((j, p) :: l) = (j, frzT d n objs p) :: frzA d n objs l) := by
  refine ⟨fun n l i p => ?_, fun n l i h => ?_, fun n l d k objs => ?_, fun ks n l => ?_, fun _ _ _ => rfl, fun _ _ _ _ _ _ => rfl⟩
  · refine tmA_ext (by simp [tmA_length]) fun k hk => ?_
    rw [List.getElem?_set]
    simp only [lkA]
    split
    · rename_i h; subst h; simp [tmA_length, hk]
    · rename_i h; rw [tmA_get, if_pos hk, if_neg (fun h' => h h'.symm)]
  · rw [List.getD_eq_getElem?_getD, tmA_get, if_pos h]; rfl
  · refine tmA_ext (by simp [tmA_length]) fun i hi => ?_
    rw [List.getElem?_map, tmA_get, if_pos hi, lkA_frz]; rfl
  · refine tmA_ext (by simp [fgt_length, tmA_length]) fun i hi => ?_
    rw [fgt_get?, tmA_get, if_pos hi, lkA_fg]; rfl

theorem tmA_all {n : Nat} {l : List (Nat × PV)} (h : (l.all fun x => x.2.pure) = true) : (tmA n l).all PV.pure = true := by
  rw [List.all_eq_true]
  intro p hp
  obtain ⟨i, hi, rfl⟩ := List.mem_map.1 hp
  clear hp hi
  induction l with
  | nil => rfl
  | cons x l ih =>
    rw [List.all_cons, Bool.and_eq_true] at h
    obtain ⟨j, q⟩ := x
    simp only [lkA]
    split
    · exact h.1
    · exact ih h.2

theorem startA :
    (∀ n, startS [] n = ⟨tmA n [], []⟩) ∧
    (∀ a n, 1 ≤ n → startS [a] n = ⟨tmA n [(0, a)], []⟩) ∧
    (∀ a b n, 2 ≤ n → startS [a, b] n = ⟨tmA n [(0, a), (1, b)], []⟩) ∧
    (∀ a b c n, 3 ≤ n → startS [a, b, c] n = ⟨tmA n [(0, a), (1, b), (2, c)], []⟩) ∧
    (∀ a b c d n, 4 ≤ n → startS [a, b, c, d] n = ⟨tmA n [(0, a), (1, b), (2, c), (3, d)], []⟩) ∧
    (∀ a b c d e n, 5 ≤ n → startS [a, b, c, d, e] n = ⟨tmA n [(0, a), (1, b), (2, c), (3, d), (4, e)], []⟩) := by
  have key : ∀ (args : List PV) (n : Nat) (l : List (Nat × PV)), args.length ≤ n → (∀ i, i < n → args.getD i .dead = lkA l i) → startS args n = ⟨tmA n l, []⟩ := by
    intro args n l h1 h2
    have : args ++ List.replicate (n - args.length) PV.dead = tmA n l := by
      refine tmA_ext (by simp; omega) fun i hi => ?_
      rw [← h2 i hi, List.getElem?_append, List.getD_eq_getElem?_getD]
      split
      · rename_i h; rw [List.getElem?_eq_getElem h]; rfl
      · rename_i h; rw [List.getElem?_replicate, if_pos (by omega), List.getElem?_eq_none (by omega)]; rfl
    rw [startS, this]
  refine ⟨fun n => key _ _ _ (by simp) ?_, fun a n h => key _ _ _ h ?_, fun a b n h => key _ _ _ h ?_, fun a b c n h => key _ _ _ h ?_, fun a b c d n h => key _ _ _ h ?_, fun a b c d e n h => key _ _ _ h ?_⟩
  all_goals
    intro i _
    match i with
    | 0 => rfl
    | 1 => rfl
    | 2 => rfl
    | 3 => rfl
    | 4 => rfl
    | i + 5 => simp [lkA]

theorem stR2 :
    (∀ tm ob d p, St.put ⟨tm, ob⟩ (some d) p = ⟨tm.set d p, ob⟩) ∧
    (∀ tm ob p, St.put ⟨tm, ob⟩ none p = ⟨tm, ob⟩) ∧
    (∀ tm ob t, St.ev ⟨tm, ob⟩ (.tmp t) = tm.getD t .dead) ∧
    (∀ (S : St) v, S.ev (.const v) = .ofV v) ∧
    (∀ (S : St) f, S.ev (.func f) = .fn f [] []) ∧
    (∀ k n, PV.ofV (.int k n) = .int k n) ∧ (∀ b, PV.ofV (.bool b) = .bool b) ∧ (∀ l, PV.ofV (.string ⟨⟨l⟩⟩) = .str l) ∧
    (PV.ofV (.slice none 0 0) = .sl 0 [] (some true)) ∧ (PV.ofV (.pointer none) = .nilp) ∧ (PV.ofV .nilFunc = .nilf) :=
  ⟨fun _ _ _ _ => rfl, fun _ _ _ => rfl, fun _ _ _ => rfl, fun _ _ => rfl, fun _ _ => rfl,
   fun _ _ => rfl, fun _ => rfl, fun _ => rfl, rfl, rfl, rfl⟩

/-- The first states of an invariant, from either form. -/
theorem mkT_A (n : Nat) (l : List (Nat × PV)) : mkT n l = tmA n l.reverse := by
  unfold mkT
  rw [← List.foldr_reverse]
  generalize l.reverse = r
  induction r with
  | nil =>
    refine tmA_ext (by simp) fun i hi => ?_
    simp [lkA, hi]
  | cons x r ih =>
    obtain ⟨j, p⟩ := x
    rw [List.foldr_cons, ih]
    exact taR2.1 n r j p

end Lp

/-! LpZ -/

namespace Lp
open Go

/-- What goes on with a value, out of simp's sight. -/
structure HK {α : Type} (K : α → Prop) : Type where

def atO {α : Type} {K : α → Prop} (o : Option α) (_h : HK K) : Prop := ∃ x, o = some x ∧ K x

theorem atO_mk {α : Type} {K : α → Prop} {o : Option α} (x : α) (h : o = some x) (hk : K x) : atO o (HK.mk : HK K) := ⟨x, h, hk⟩

theorem atR {α : Type} (K : α → Prop) : (∀ x, atO (some x) (HK.mk : HK K) = K x) ∧ (∀ (a : α) l, (a :: l)[0]? = some a) ∧ (∀ (a : α) l (n : Nat), (a :: l)[n + 1]? = l[n]?) :=
  ⟨fun x => by simp [atO], fun _ _ => rfl, fun _ _ _ => by simp⟩

def slK (k : TK) (K : TypeId → Prop) : Prop := match k with
  | .slice e => K e
  | _ => False
def arK (k : TK) (K : Nat → TypeId → Prop) : Prop := match k with
  | .array n e => K n e
  | _ => False
def strK (k : TK) (X : Prop) : Prop := match k with
  | .str => X
  | _ => False

@[congr] theorem slK_congr {k k' : TK} {K : TypeId → Prop} (h : k = k') : slK k K = slK k' K := by rw [h]
@[congr] theorem arK_congr {k k' : TK} {K : Nat → TypeId → Prop} (h : k = k') : arK k K = arK k' K := by rw [h]
@[congr] theorem strK_congr {k k' : TK} {X : Prop} (h : k = k') : strK k X = strK k' X := by rw [h]

theorem skR : (∀ e K, slK (.slice e) K = K e) ∧ (∀ n e K, arK (.array n e) K = K n e) ∧ (∀ X, strK .str X = X) := ⟨fun _ _ => rfl, fun _ _ _ => rfl, fun _ => rfl⟩

theorem genR (D : TypeId → TInfo) (objs : List Obj) (K : KT) :
    (∀ t sz xs q k n, indexAddrR D t (.sl sz xs q) (.int k n) objs K = slK (D t).kind fun e => (D e).kind ≠ .none ∧ 0 ≤ n ∧ (D e).size = sz ∧ atO xs[n.toNat]? (HK.mk : HK fun y => K (.addr y) objs 0)) ∧
    (∀ t k ver k' n, indexAddrR D t (.osl k ver) (.int k' n) objs K = slK (D t).kind fun e => (D e).kind ≠ .none ∧ 0 ≤ n ∧ ∃ o, objs[k]? = some o ∧ o.live = true ∧ o.ver = ver ∧ n < o.xs.length ∧ (D e).size = o.sz ∧ K (.optr k ver n.toNat 0) objs (4 + 2 * k)) ∧
    (∀ t cs k n, indexAddrR D t (.addr (.agg cs)) (.int k n) objs K = arK (D t).kind fun m e => (D e).kind ≠ .none ∧ 0 ≤ n ∧ n < m ∧ (n.toNat + 1) * (D e).size ≤ cs.length ∧ ((D e).agg = false → (D e).size = 1) ∧ cs.all (fun c => !c.isAgg) = true ∧
      K (.addr (sub cs (n.toNat * (D e).size) (D e).size (D e).agg)) objs 0) ∧
    (∀ t k ver i f k' n, indexAddrR D t (.optr k ver i f) (.int k' n) objs K = arK (D t).kind fun m e => (D e).kind ≠ .none ∧ 0 ≤ n ∧ n < m ∧ ∃ o, objs[k]? = some o ∧ o.live = true ∧ o.ver = ver ∧ K (.optr k ver i (f + n.toNat * (D e).size)) objs (4 + 2 * k)) ∧
    (∀ t s k n, indexR D t (.str s) (.int k n) objs K = strK (D t).kind (0 ≤ n ∧ atO s[n.toNat]? (HK.mk : HK fun b => K (.int .u8 b.toNat) objs 0))) ∧
    (∀ t cs k n, indexR D t (.agg cs) (.int k n) objs K = arK (D t).kind fun m e => (D e).kind ≠ .none ∧ 0 ≤ n ∧ n < m ∧ (n.toNat + 1) * (D e).size ≤ cs.length ∧ (D e).size ≠ 0 ∧ K (sub cs (n.toNat * (D e).size) (D e).size (D e).agg) objs 0) ∧
    (∀ t cs f, fieldAddrR D t (.addr (.agg cs)) f objs K = fieldOf D t f fun off ti => off + ti.size ≤ cs.length ∧ (ti.agg = false → ti.size = 1) ∧ cs.all (fun c => !c.isAgg) = true ∧ K (.addr (sub cs off ti.size ti.agg)) objs 0) ∧
    (∀ t k ver i f' f, fieldAddrR D t (.optr k ver i f') f objs K = ∃ o, objs[k]? = some o ∧ o.live = true ∧ o.ver = ver ∧ fieldOf D t f fun off _ => K (.optr k ver i (f' + off)) objs (4 + 2 * k)) ∧
    (∀ t cs f, fieldR D t (.agg cs) f objs K = fieldOf D t f fun off ti => off + ti.size ≤ cs.length ∧ K (sub cs off ti.size ti.agg) objs 0) ∧
    (∀ t s, lenR D t (.str s) objs K = strK (D t).kind (K (.int .i64 s.length) objs 0)) ∧
    (∀ t sz xs q, lenR D t (.sl sz xs q) objs K = slK (D t).kind fun _ => K (.int .i64 xs.length) objs 0) ∧
    (∀ t k ver, lenR D t (.osl k ver) objs K = slK (D t).kind fun _ => ∃ o, objs[k]? = some o ∧ o.live = true ∧ o.ver = ver ∧ K (.int .i64 o.xs.length) objs (4 + 2 * k)) ∧
    (∀ t s lo hi, sliceR D t (.str s) lo hi objs K = strK (D t).kind (boundR lo 0 fun l => boundR hi s.length fun h => 0 ≤ l ∧ l ≤ h ∧ h ≤ s.length ∧ K (.str ((s.take h.toNat).drop l.toNat)) objs 0)) ∧
    (∀ t sz xs q lo hi, sliceR D t (.sl sz xs q) lo hi objs K = slK (D t).kind fun e => (D e).kind ≠ .none ∧ (xs = [] ∨ (D e).size = sz) ∧ boundR lo 0 fun l => boundR hi xs.length fun h => 0 ≤ l ∧ l ≤ h ∧ h ≤ xs.length ∧
      K (.sl sz ((xs.take h.toNat).drop l.toNat) q) objs 0) ∧
    (∀ t k ver lo hi, sliceR D t (.osl k ver) lo hi objs K = slK (D t).kind fun e => (D e).kind ≠ .none ∧ ∃ o, objs[k]? = some o ∧ o.live = true ∧ o.ver = ver ∧ (D e).size = o.sz ∧ lo = none ∧ boundR hi o.xs.length fun h => 0 ≤ h ∧ h ≤ o.xs.length ∧
      K (.osl k (ver + 1)) (objs.set k { o with xs := o.xs.take h.toNat, ver := ver + 1 }) (5 + 2 * k)) := by
  refine ⟨fun t sz xs q k n => ?_, fun t k ver k' n => ?_, fun t cs k n => ?_, fun t k ver i f k' n => ?_, fun t s k n => ?_, fun t cs k n => ?_, fun _ _ _ => rfl, fun _ _ _ _ _ _ => rfl, fun _ _ _ => rfl, fun t s => ?_, fun t sz xs q => ?_, fun t k ver => ?_, fun t s lo hi => ?_, fun t sz xs q lo hi => ?_, fun t k ver lo hi => ?_⟩
  all_goals try simp only [indexAddrR, indexR, lenR, sliceR]
  all_goals cases (D t).kind <;> simp only [slK, arK, strK, atO]
  apply propext
  constructor
  · rintro ⟨h1, h2, y, h3, h4, h5⟩; exact ⟨h1, h2, h4, y, h3, h5⟩
  · rintro ⟨h1, h2, h4, y, h3, h5⟩; exact ⟨h1, h2, y, h3, h4, h5⟩

theorem ldR (objs : List Obj) (K : KT) :
    (∀ ti x, loadR ti (.addr x) objs K = (ti.kind ≠ .none ∧ x.cells.length = ti.size ∧ x.isAgg = ti.agg ∧ K x objs 0)) ∧
    (∀ ti k ver i f, loadR ti (.optr k ver i f) objs K = ∃ o e, objs[k]? = some o ∧ o.live = true ∧ o.ver = ver ∧ o.xs[i]? = some e ∧ ti.kind ≠ .none ∧ f + ti.size ≤ e.cells.length ∧
      (ti.agg = false → ti.size = 1) ∧ e.cells.all (fun c => !c.isAgg) = true ∧ K (sub e.cells f ti.size ti.agg) objs (4 + 2 * k)) := ⟨fun _ _ => rfl, fun _ _ _ _ _ => rfl⟩

theorem srcK (D : TypeId → TInfo) (objs : List Obj) (K : List PV → Bool → Prop) :
    (∀ t sz xs q, srcR D t (.sl sz xs q) objs K = slK (D t).kind fun _ => K xs false) ∧
    (∀ t k ver, srcR D t (.osl k ver) objs K = slK (D t).kind fun _ => ∃ o, objs[k]? = some o ∧ o.live = true ∧ o.ver = ver ∧ K o.xs true) ∧
    (∀ t s, srcR D t (.str s) objs K = strK (D t).kind (K (s.map fun b => .int .u8 b.toNat) false)) := by
  refine ⟨fun t sz xs q => ?_, fun t k ver => ?_, fun t s => ?_⟩
  all_goals simp only [srcR]
  all_goals cases (D t).kind <;> simp only [slK, strK]

@[congr] theorem srcR_congr {D : TypeId → TInfo} {t : TypeId} {x x' : PV} {objs objs' : List Obj} {K : List PV → Bool → Prop} (h : x = x') (ho : objs = objs') : srcR D t x objs K = srcR D t x' objs' K := by rw [h, ho]

theorem ntR : noTwo [] = true ∧ (∀ l, noTwo (0 :: l) = noTwo l) ∧ (∀ l, noTwo (1 :: l) = noTwo l) ∧ (∀ l, noTwo (4 :: l) = noTwo l) ∧ (∀ l, noTwo (6 :: l) = noTwo l) ∧ (∀ l, noTwo (8 :: l) = noTwo l) ∧ (∀ l, noTwo (10 :: l) = noTwo l) :=
  ⟨rfl, fun _ => rfl, fun _ => rfl, fun _ => rfl, fun _ => rfl, fun _ => rfl, fun _ => rfl⟩

/-! ### Rows of encoded things -/

theorem rowR {α : Type} {E : List α → PV} {sz : Nat} {enc : α → PV} (hE : ∀ l, E l = .sl sz (l.map enc) none) (D : TypeId → TInfo) (objs : List Obj) (K : KT) :
    (∀ t l k n, indexAddrR D t (E l) (.int k n) objs K = slK (D t).kind fun e => (D e).kind ≠ .none ∧ 0 ≤ n ∧ (D e).size = sz ∧ atO l[n.toNat]? (HK.mk : HK fun y => K (.addr (enc y)) objs 0)) ∧
    (∀ t l, lenR D t (E l) objs K = slK (D t).kind fun _ => K (.int .i64 l.length) objs 0) ∧
    (∀ t l lo hi, sliceR D t (E l) lo hi objs K = slK (D t).kind fun e => (D e).kind ≠ .none ∧ (l = [] ∨ (D e).size = sz) ∧ boundR lo 0 fun a => boundR hi l.length fun h => 0 ≤ a ∧ a ≤ h ∧ h ≤ l.length ∧
      K (E ((l.take h.toNat).drop a.toNat)) objs 0) := by
  refine ⟨fun t l k n => ?_, fun t l => ?_, fun t l lo hi => ?_⟩
  all_goals simp only [hE, (genR D objs K).1, (genR D objs K).2.2.2.2.2.2.2.2.2.2.1, (genR D objs K).2.2.2.2.2.2.2.2.2.2.2.2.2.1]
  all_goals cases (D t).kind <;> simp only [slK, atO, List.length_map, List.map_eq_nil_iff, List.map_drop, List.map_take]
  apply propext
  constructor
  · rintro ⟨h1, h2, h4, y, h3, h5⟩
    rw [List.getElem?_map] at h3
    cases hx : l[n.toNat]? with
    | none => rw [hx] at h3; simp at h3
    | some x => rw [hx] at h3; simp only [Option.map_some, Option.some.injEq] at h3; exact ⟨h1, h2, h4, x, rfl, h3 ▸ h5⟩
  · rintro ⟨h1, h2, h4, y, h3, h5⟩
    exact ⟨h1, h2, h4, enc y, by rw [List.getElem?_map, h3]; rfl, h5⟩

theorem rowS {α : Type} {E : List α → PV} {sz : Nat} {enc : α → PV} (hE : ∀ l, E l = .sl sz (l.map enc) none) (D : TypeId → TInfo) (objs : List Obj) (K : List PV → Bool → Prop) :
    (∀ t l, srcR D t (E l) objs K = slK (D t).kind fun _ => K (l.map enc) false) := by
  intro t l
  rw [hE]
  exact (srcK D objs K).1 ..

/-- What cells know of it. -/
theorem rowC {α : Type} {E : List α → PV} {sz : Nat} {enc : α → PV} (hE : ∀ l, E l = .sl sz (l.map enc) none) :
    (∀ l, (E l).cells = [E l]) ∧ (∀ l, (E l).isAgg = false) ∧ (∀ l, (E l).pure = true) ∧ (∀ l, (E l).ref = false) ∧ (∀ l, (E l).solid = true) ∧ (∀ l, (E l).storable = true) ∧
    (∀ d n O l, frz d n O (E l) = E l) ∧ (∀ d n O l, frzT d n O (E l) = E l) := by
  refine ⟨fun l => ?_, fun l => ?_, fun l => ?_, fun l => ?_, fun l => ?_, fun l => ?_, fun _ _ _ l => ?_, fun _ _ _ l => ?_⟩
  all_goals rw [hE]; rfl

/-- What is read back of an encoded thing, out of simp's sight. -/
def ofE {α : Type} (E : α → PV) {K : α → Prop} (x : PV) (_h : HK K) : Prop := ∃ v, x = E v ∧ K v

theorem ofE_mk {α : Type} {E : α → PV} {K : α → Prop} {x : PV} (v : α) (h : x = E v) (hk : K v) : ofE E x (HK.mk : HK K) := ⟨v, h, hk⟩

theorem ofE_inj {α : Type} {E : α → PV} (hE : ∀ a b, E a = E b → a = b) (K : α → Prop) (v : α) : ofE E (E v) (HK.mk : HK K) = K v :=
  propext ⟨fun ⟨w, h, hk⟩ => hE v w h ▸ hk, fun hk => ⟨v, rfl, hk⟩⟩

theorem row_inj {α : Type} {E : List α → PV} {sz : Nat} {enc : α → PV} (hE : ∀ l, E l = .sl sz (l.map enc) none) (he : ∀ a b, enc a = enc b → a = b) : ∀ a b, E a = E b → a = b := by
  intro a b h
  rw [hE, hE] at h
  injection h with _ h _
  induction a generalizing b with
  | nil => cases b with
    | nil => rfl
    | cons y ys => simp at h
  | cons x xs ih => cases b with
    | nil => simp at h
    | cons y ys =>
      simp only [List.map_cons, List.cons.injEq] at h
      rw [he x y h.1, ih ys h.2]

theorem exS {α : Type} (a : α) (q : α → Prop) : (∃ o, some a = some o ∧ q o) = q a := by simp

theorem stoR : (∀ k n, PV.storable (.int k n) = true) ∧ (∀ b, PV.storable (.bool b) = true) ∧ (∀ s, PV.storable (.str s) = true) ∧ (∀ z xs q, PV.storable (.sl z xs q) = true) ∧
    (∀ k v, PV.storable (.osl k v) = true) ∧ (∀ k v i f, PV.storable (.optr k v i f) = true) ∧ (∀ x, PV.storable (.addr x) = true) :=
  ⟨fun _ _ => rfl, fun _ => rfl, fun _ => rfl, fun _ _ _ => rfl, fun _ _ => rfl, fun _ _ _ _ => rfl, fun _ => rfl⟩

theorem mapApp {α β : Type} (f : α → β) (l m : List α) : l.map f ++ m.map f = (l ++ m).map f := by simp

/-- What freezing leaves as it is. -/
def Inert {α : Type} (enc : α → PV) : Prop := ∀ d n objs x, PV.mapCells (frzI d n objs) (enc x) = enc x

theorem frzRow {α : Type} {E : List α → PV} {sz : Nat} {enc : α → PV} (hE : ∀ l, E l = .sl sz (l.map enc) none) (h : Inert enc) :
    (∀ d ty l v rest, frz (d + 1) 0 (⟨ty, sz, l.map enc, true, v⟩ :: rest) (.osl 0 v) = E l) ∧
    (∀ d ty l v o rest, frz (d + 1) 0 (o :: ⟨ty, sz, l.map enc, true, v⟩ :: rest) (.osl 1 v) = E l) ∧
    (∀ d ty l v o o' rest, frz (d + 1) 0 (o :: o' :: ⟨ty, sz, l.map enc, true, v⟩ :: rest) (.osl 2 v) = E l) := by
  have key : ∀ d ty l v objs k, objs[k]? = some ⟨ty, sz, l.map enc, true, v⟩ → frz (d + 1) 0 objs (.osl k v) = E l := by
    intro d ty l v objs k hk
    simp only [frz, Nat.not_lt_zero, if_false, frzI, hk, Nat.zero_le, decide_true, Bool.and_self, BEq.rfl, if_true]
    rw [hE]
    congr 1
    rw [List.map_map]
    exact List.map_congr_left fun x _ => h d 0 objs x
  exact ⟨fun d ty l v rest => key d ty l v _ 0 rfl, fun d ty l v o rest => key d ty l v _ 1 rfl, fun d ty l v o o' rest => key d ty l v _ 2 rfl⟩

/-- Elements of a row may be appended. -/
theorem rowA {α : Type} {enc : α → PV} {sz : Nat} (h1 : ∀ x, (enc x).cells.length = sz) (h2 : ∀ x, (enc x).cells.all PV.storable = true) (l : List α) :
    (∀ y, y ∈ l.map enc → y.cells.length = sz ∧ y.cells.all PV.storable = true) = True := by
  refine eq_true fun y hy => ?_
  obtain ⟨x, _, rfl⟩ := List.mem_map.1 hy
  exact ⟨h1 x, h2 x⟩

theorem rowA1 (y0 : PV) (sz : Nat) : (∀ y, y ∈ [y0] → y.cells.length = sz ∧ y.cells.all PV.storable = true) = (y0.cells.length = sz ∧ y0.cells.all PV.storable = true) := by simp

theorem neO (E : PV) (h : E.ref = false) (k : Nat) : (∀ k' v' : Nat, E = .osl k' v' → ¬ k' = k) = True := by
  refine eq_true fun k' v' he => ?_
  rw [he] at h; cases h


/-- What a loop keeps, in order. -/
def keepA : List Bool → Nat → List (Nat × PV) → List (Nat × PV)
  | [], _, _ => []
  | true :: ks, i, l => (i, lkA l i) :: keepA ks (i + 1) l
  | false :: ks, i, l => keepA ks (i + 1) l

theorem lkA_keep : ∀ (ks : List Bool) (j : Nat) (l : List (Nat × PV)) (i : Nat), lkA (keepA ks j l) i = if j ≤ i ∧ ks[i - j]? = some true then lkA l i else .dead
  | [], j, l, i => by simp [keepA, lkA]
  | true :: ks, j, l, i => by
    simp only [keepA, lkA]
    by_cases h : i = j
    · subst h; simp
    · rw [if_neg h, lkA_keep ks (j + 1) l i]
      by_cases hj : j + 1 ≤ i
      · have e : i - j = (i - (j + 1)) + 1 := by omega
        simp only [e, List.getElem?_cons_succ, hj, true_and, show j ≤ i by omega]
      · rw [if_neg (by omega), if_neg (by omega)]
  | false :: ks, j, l, i => by
    simp only [keepA]
    rw [lkA_keep ks (j + 1) l i]
    by_cases h : i = j
    · subst h; rw [if_neg (by omega), if_neg (by simp)]
    · by_cases hj : j + 1 ≤ i
      · have e : i - j = (i - (j + 1)) + 1 := by omega
        simp only [e, List.getElem?_cons_succ, hj, true_and, show j ≤ i by omega]
      · rw [if_neg (by omega), if_neg (by omega)]

theorem fgt_keep (ks : List Bool) (n : Nat) (l : List (Nat × PV)) : fgt ks (tmA n l) = tmA n (keepA ks 0 l) := by
  refine tmA_ext (by simp [fgt_length, tmA_length]) fun i hi => ?_
  rw [fgt_get?, tmA_get, if_pos hi, lkA_keep]
  simp

theorem normR :
    (∀ ks n l ob, St.norm ks none ⟨tmA n l, ob⟩ = ⟨tmA n (keepA ks 0 l), ob⟩) ∧
    (∀ ks d k n l ob, St.norm ks (some (d, k)) ⟨tmA n l, ob⟩ = St.freeze d k ⟨tmA n (keepA ks 0 l), ob⟩) := by
  refine ⟨fun ks n l ob => ?_, fun ks d k n l ob => ?_⟩
  · simp only [St.norm, St.forget, fgt_keep]
  · simp only [St.norm, St.forget, fgt_keep]

theorem keepR : (∀ i l, keepA [] i l = []) ∧ (∀ ks i l, keepA (true :: ks) i l = (i, lkA l i) :: keepA ks (i + 1) l) ∧ (∀ ks i l, keepA (false :: ks) i l = keepA ks (i + 1) l) :=
  ⟨fun _ _ => rfl, fun _ _ _ => rfl, fun _ _ _ => rfl⟩


theorem caR2 (T : Know) (K : KT) (objs : List Obj) (pt : Bool) :
    (∀ g args, callT T pt (.fn g [] []) args objs K = T.fn g args objs K) ∧
    (∀ g c, callT T pt (.fn g [] [c]) [] objs K = T.fn g [c] objs K) ∧
    (∀ g c a, callT T pt (.fn g [] [c]) [a] objs K = T.fn g [a, c] objs K) ∧
    (∀ g c a b, callT T pt (.fn g [] [c]) [a, b] objs K = T.fn g [a, b, c] objs K) ∧
    (∀ g c d a, callT T pt (.fn g [] [c, d]) [a] objs K = T.fn g [a, c, d] objs K) ∧
    (∀ g c d a b, callT T pt (.fn g [] [c, d]) [a, b] objs K = T.fn g [a, b, c, d] objs K) ∧
    (∀ l args, callT T pt (.yld l) args objs K = (l = T.y ∧ pt = true ∧ args.all PV.pure = true ∧ T.Y args objs fun b o => K (.bool b) o 2)) := by
  refine ⟨fun g args => ?_, fun _ _ => rfl, fun _ _ _ => rfl, fun _ _ _ _ => rfl, fun _ _ _ _ => rfl, fun _ _ _ _ _ => rfl, fun _ _ => rfl⟩
  simp [callT]

theorem taR3 (K : KT) (objs : List Obj) (args : List PV) (c : Ctr) (l : List (FuncId × Ctr)) (f : FuncId) :
    (tabF ((f, c) :: l) f args objs K = c args objs K) ∧ (∀ g, (f == g) = false → tabF ((g, c) :: l) f args objs K = tabF l f args objs K) := by
  refine ⟨by simp [tabF], fun g h => ?_⟩
  rw [taR, h]; rfl


@[congr] theorem builtinR_congr {D : TypeId → TInfo} {b : Builtin} {ats ats' : List TypeId} {args args' : List Operand} {ev : Operand → PV} {objs : List Obj} {K : KT} (h : ats = ats') (h1 : args = args') : builtinR D b ats args ev objs K = builtinR D b ats' args' ev objs K := by rw [h, h1]


theorem opsR2 (P : Program) (D : TypeId → TInfo) (T : Know) (w pt : Bool) (ev : Operand → PV) (objs : List Obj) (K : KT) :
    (∀ x, opT P D T w pt ev objs (.move x) K = K (ev x) objs 0) ∧ (∀ x, opT P D T w pt ev objs (.assign x) K = K (ev x) objs 0) ∧
    (∀ c x y, opT P D T w pt ev objs (.pick c x y) K = pickR (ev c) (ev x) (ev y) objs K) ∧
    (∀ t, opT P D T w pt ev objs (.alloc t) K = allocR t (D t) objs K) ∧
    (∀ t x, opT P D T w pt ev objs (.box t x) K = boxR t (D t) (ev x) objs K) ∧
    (∀ t ps, opT P D T w pt ev objs (.build t ps) K = buildR' D t (ps.toList.map fun x => (x.1, ev x.2)) objs K) ∧
    (∀ t n ps, opT P D T w pt ev objs (.buildSlice t n ps) K = buildSliceR D w t n (ps.toList.map fun x => (x.1, ev x.2)) objs K) ∧
    (∀ t x, opT P D T w pt ev objs (.load t x) K = loadR (D t) (ev x) objs K) ∧
    (∀ t x y, opT P D T w pt ev objs (.store t x y) K = storeR (D t) (ev x) (ev y) objs K) ∧
    (∀ x, opT P D T w pt ev objs (.nilCheck x) K = nilCheckR (ev x) objs K) ∧
    (∀ b t x y t', opT P D T w pt ev objs (.binOp b t x y t') K = binR P (D t) t b (ev x) (ev y) fun r => K r objs 0) ∧
    (∀ u t x, opT P D T w pt ev objs (.unOp u t x) K = unR u (ev x) fun r => K r objs 0) ∧
    (∀ s t x, opT P D T w pt ev objs (.convert s t x) K = convO D s t (ev x) objs K) ∧
    (∀ f first cap, opT P D T w pt ev objs (.makeFunc (.func f) first cap) K = makeFuncR f (first.toList.map ev) (cap.toList.map ev) objs K) ∧
    (∀ t l c, opT P D T w pt ev objs (.makeSlice t l c) K = makeSliceR D t (ev l) (ev c) objs K) ∧
    (∀ t x lo hi, opT P D T w pt ev objs (.slice t x lo hi none) K = sliceR D t (ev x) (lo.map ev) (hi.map ev) objs K) ∧
    (∀ t x f, opT P D T w pt ev objs (.fieldAddr t x f) K = fieldAddrR D t (ev x) f objs K) ∧
    (∀ t x f, opT P D T w pt ev objs (.field t x f) K = fieldR D t (ev x) f objs K) ∧
    (∀ t x i, opT P D T w pt ev objs (.indexAddr t x i) K = indexAddrR D t (ev x) (ev i) objs K) ∧
    (∀ t x i, opT P D T w pt ev objs (.index t x i) K = indexR D t (ev x) (ev i) objs K) ∧
    (∀ x i, opT P D T w pt ev objs (.extract x i) K = extractR (ev x) i objs K) ∧
    (∀ t x, opT P D T w pt ev objs (.call { callee := .builtin .len, args := ⟨[x]⟩, argTypes := ⟨[t]⟩ }) K = lenR D t (ev x) objs K) ∧
    (∀ t u s x, opT P D T w pt ev objs (.call { callee := .builtin .append, args := ⟨[s, x]⟩, argTypes := ⟨[t, u]⟩ }) K = appendR D t u (ev s) (ev x) objs K) ∧
    (∀ x y ats, opT P D T w pt ev objs (.call { callee := .builtin .max, args := ⟨[x, y]⟩, argTypes := ats }) K = minmaxR true [ev x, ev y] fun r => K r objs 0) ∧
    (∀ x y ats, opT P D T w pt ev objs (.call { callee := .builtin .min, args := ⟨[x, y]⟩, argTypes := ats }) K = minmaxR false [ev x, ev y] fun r => K r objs 0) ∧
    (∀ f args ats, opT P D T w pt ev objs (.call { callee := .value f, args := args, argTypes := ats }) K = callT T pt (ev f) (args.toList.map ev) objs K) :=
  ⟨fun _ => rfl, fun _ => rfl, fun _ _ _ => rfl, fun _ => rfl, fun _ _ => rfl, fun _ _ => rfl, fun _ _ _ => rfl, fun _ _ => rfl, fun _ _ _ => rfl, fun _ => rfl, fun _ _ _ _ _ => rfl, fun _ _ _ => rfl, fun _ _ _ => rfl,
   fun _ _ _ => rfl, fun _ _ _ => rfl, fun _ _ _ _ => rfl, fun _ _ _ => rfl, fun _ _ _ => rfl, fun _ _ _ => rfl, fun _ _ _ => rfl, fun _ _ => rfl, fun _ _ => rfl, fun _ _ _ _ => rfl, fun _ _ _ => rfl, fun _ _ _ => rfl, fun _ _ _ => rfl⟩


theorem exS2 {α β : Type} (a : α) (q : α → β → Prop) : (∃ o e, some a = some o ∧ q o e) = ∃ e, q a e := by simp

theorem setRow {α : Type} {enc : α → PV} (h : ∀ x y : α, (enc x).putCells 0 (enc y).cells = enc y) (l : List α) (i : Nat) (x y : α) : (l.map enc).set i ((enc x).putCells 0 (enc y).cells) = (l.set i y).map enc := by
  rw [h, List.map_set]


/-- The steps of a region; states stay in their form. -/
theorem lrR3 (P : Program) (D : TypeId → TInfo) (T : Know) :
    (∀ S ts (K : St → List Nat → Prop), LR P D T [] S ts K = K S ts) ∧
    (∀ d o w rest n l ob ts (K : St → List Nat → Prop), LR P D T (⟨some d, o, none, w⟩ :: rest) ⟨tmA n l, ob⟩ ts K =
      opT P D T w ((tmA n l).all PV.pure) (St.ev ⟨tmA n l, ob⟩) ob o fun r objs' t => LR P D T rest ⟨tmA n ((d, r) :: l), objs'⟩ (ts ++ [t]) K) ∧
    (∀ o w rest n l ob ts (K : St → List Nat → Prop), LR P D T (⟨none, o, none, w⟩ :: rest) ⟨tmA n l, ob⟩ ts K =
      opT P D T w ((tmA n l).all PV.pure) (St.ev ⟨tmA n l, ob⟩) ob o fun r objs' t => LR P D T rest ⟨tmA n l, objs'⟩ (ts ++ [t]) K) ∧
    (∀ d o g v w rest n l ob ts (K : St → List Nat → Prop), LR P D T (⟨some d, o, some (some g, v), w⟩ :: rest) ⟨tmA n l, ob⟩ ts K =
      guardV ((tmA n l).getD g .dead) g v ⟨tmA n l, ob⟩ (fun S => LR P D T (⟨some d, o, none, w⟩ :: rest) S ts K) (fun S => LR P D T rest (S.put (some d) (.tup [])) (ts ++ [0]) K)) ∧
    (∀ o g v w rest n l ob ts (K : St → List Nat → Prop), LR P D T (⟨none, o, some (some g, v), w⟩ :: rest) ⟨tmA n l, ob⟩ ts K =
      guardV ((tmA n l).getD g .dead) g v ⟨tmA n l, ob⟩ (fun S => LR P D T (⟨none, o, none, w⟩ :: rest) S ts K) (fun S => LR P D T rest S (ts ++ [0]) K)) := by
  refine ⟨fun _ _ _ => rfl, fun d o w rest n l ob ts K => ?_, fun o w rest n l ob ts K => rfl, fun d o g v w rest n l ob ts K => rfl, fun o g v w rest n l ob ts K => rfl⟩
  simp only [← taR2.1]
  rfl

theorem guR3 :
    (∀ b d n l ob (X Y : St → Prop), guardV (.bool b) d true ⟨tmA n l, ob⟩ X Y = ifP b (X ⟨tmA n ((d, .bool true) :: l), ob⟩) (Y ⟨tmA n ((d, .bool false) :: l), ob⟩)) ∧
    (∀ b d n l ob (X Y : St → Prop), guardV (.bool b) d false ⟨tmA n l, ob⟩ X Y = ifP b (Y ⟨tmA n ((d, .bool true) :: l), ob⟩) (X ⟨tmA n ((d, .bool false) :: l), ob⟩)) ∧
    (∀ d w (S : St) (X Y : St → Prop), guardV (.tup []) d w S X Y = Y S) := by
  refine ⟨fun b d n l ob X Y => ?_, fun b d n l ob X Y => ?_, fun _ _ _ _ _ => rfl⟩
  · simp only [guR2, taR2.1]
  · simp only [guR2, taR2.1]

/-- Putting, straight. -/
theorem putR3 : (∀ n l ob d p, St.put ⟨tmA n l, ob⟩ (some d) p = ⟨tmA n ((d, p) :: l), ob⟩) := fun n l ob d p => by
  rw [← taR2.1]; rfl


/-- As FnOk.pure, for one result; what is asked at the end cannot be unfolded (the kernel would, and be lost). -/
theorem FnOk.pureG {P : Program} {D : TypeId → TInfo} {T : Know} {f : FuncId} {n t : Nat} {C : LC} {args : List PV} {r : PV} (h : FnOk P f n [.tmp t] C) (d : Nat) (hD : ∀ t, TOk P t (D t)) (hT : KOk P none Etop T) (hm : P.follows .mixedOrders = true) (ht : t < n)
    (hw : ∀ Q : Exit → St → Prop, (∀ l ob, Q .ret ⟨tmA n l, ob⟩ = (r = frzT d 0 ob (lkA l t))) → wpc P D T C Q (startS args n)) : FnSpec P f args [] r [] := by
  refine h.pure d hD hT hm (by simp) (hw _ fun l ob => ?_)
  simp only [retR, outL, taR2.2.1 n l t ht, List.map_cons, List.map_nil, onePV]

theorem FnOk.pureG2 {P : Program} {D : TypeId → TInfo} {T : Know} {f : FuncId} {n t u : Nat} {C : LC} {args : List PV} {r : PV} (h : FnOk P f n [.tmp t, .tmp u] C) (d : Nat) (hD : ∀ t, TOk P t (D t)) (hT : KOk P none Etop T) (hm : P.follows .mixedOrders = true) (ht : t < n) (hu : u < n)
    (hw : ∀ Q : Exit → St → Prop, (∀ l ob, Q .ret ⟨tmA n l, ob⟩ = (r = .tup [frzT d 0 ob (lkA l t), frzT d 0 ob (lkA l u)])) → wpc P D T C Q (startS args n)) : FnSpec P f args [] r [] := by
  refine h.pure d hD hT hm (by simp) (hw _ fun l ob => ?_)
  simp only [retR, outL, taR2.2.1 n l t ht, taR2.2.1 n l u hu, List.map_cons, List.map_nil, onePV]

/-- Which of two a decided bool picks. -/
theorem pkR (x y : PV) (objs : List Obj) (K : KT) : (pickR (.bool true) x y objs K = K x objs 0) ∧ (pickR (.bool false) x y objs K = K y objs 0) := ⟨rfl, rfl⟩

/-! ### All rules, in bundles: ahead of what lies inside, and behind -/

theorem preZ :
    type_of% @wpR ∧
    type_of% @knR ∧
    type_of% @kiR ∧
    type_of% @lrR3 ∧
    type_of% @exR2 ∧
    type_of% @guR3 ∧
    type_of% @putR3 ∧
    type_of% @hoR ∧
    type_of% @ifR ∧
    type_of% @opsR2 ∧
    type_of% @taR3 ∧
    type_of% @builtinR' ∧
    type_of% @biI ∧
    type_of% @exmap ∧
    type_of% @exi ∧
    type_of% @exi2 ∧
    type_of% @srcK ∧
    type_of% @skR ∧
    type_of% @atR ∧
    type_of% @exS ∧
    type_of% @exS2 :=
  ⟨@wpR, @knR, @kiR, @lrR3, @exR2, @guR3, @putR3, @hoR, @ifR, @opsR2, @taR3, @builtinR', @biI, @exmap, @exi, @exi2, @srcK, @skR, @atR, @exS, @exS2⟩

theorem postZ :
    type_of% @knR ∧
    type_of% @kiR ∧
    type_of% @lkR ∧
    type_of% @taR2 ∧
    type_of% @startA ∧
    type_of% @guR3 ∧
    type_of% @ifR ∧
    type_of% @stR2 ∧
    type_of% @retR ∧
    type_of% @retMR ∧
    type_of% @frR ∧
    type_of% @fzR ∧
    type_of% @tmR ∧
    type_of% @normR ∧
    type_of% @keepR ∧
    type_of% @caR2 ∧
    type_of% @taR3 ∧
    type_of% @builtinR' ∧
    type_of% @pkR ∧
    type_of% @biR ∧
    type_of% @biI ∧
    type_of% @inRR ∧
    type_of% @obR ∧
    type_of% @agR ∧
    type_of% @subR ∧
    type_of% @isR ∧
    type_of% @alR ∧
    type_of% @genR ∧
    type_of% @ldR ∧
    type_of% @srcK ∧
    type_of% @skR ∧
    type_of% @ntR ∧
    type_of% @atR ∧
    type_of% @stoR ∧
    type_of% @puR ∧
    type_of% @mapApp ∧
    type_of% @rowA1 :=
  ⟨@knR, @kiR, @lkR, @taR2, @startA, @guR3, @ifR, @stR2, @retR, @retMR, @frR, @fzR, @tmR, @normR, @keepR, @caR2, @taR3, @builtinR', @pkR, @biR, @biI, @inRR, @obR, @agR, @subR, @isR, @alR, @genR, @ldR, @srcK, @skR, @ntR, @atR, @stoR, @puR, @mapApp, @rowA1⟩

theorem coreZ :
    type_of% @decide_true ∧
    type_of% @decide_false ∧
    type_of% @not_true_eq_false ∧
    type_of% @not_false_eq_true ∧
    type_of% @false_and ∧
    type_of% @and_false ∧
    type_of% @cond_true.{1} ∧
    type_of% @cond_false.{1} ∧
    type_of% @List.take_zero.{0} ∧
    type_of% @ne_eq.{1} ∧
    type_of% @true_and ∧
    type_of% @PV.bool.injEq ∧
    type_of% @Int.toNat_natCast ∧
    type_of% @Int.toNat_zero ∧
    type_of% @Bool.not_false ∧
    type_of% @Bool.not_true ∧
    type_of% @Bool.and_self ∧
    type_of% @Bool.false_eq_true ∧
    type_of% @Bool.true_eq_false ∧
    type_of% @forall_const.{1} ∧
    type_of% @false_implies ∧
    type_of% @true_implies ∧
    type_of% @and_true ∧
    type_of% @implies_true.{1} ∧
    type_of% @implies_true.{0} ∧
    type_of% @forall_const.{0} ∧
    type_of% @Nat.zero_add ∧
    type_of% @List.length_map.{0,0} ∧
    type_of% @List.length_cons.{0} ∧
    type_of% @List.length_nil.{0} ∧
    type_of% @List.nil_append.{0} ∧
    type_of% @List.map_cons.{0,0} ∧
    type_of% @List.map_nil.{0,0} ∧
    type_of% @Bool.true_or ∧
    type_of% @List.getElem?_cons_zero.{0} ∧
    type_of% @List.getElem?_cons_succ.{0} ∧
    type_of% @Option.map_some.{0,0} ∧
    type_of% @or_true ∧
    type_of% @List.getElem?_map.{0,0} ∧
    type_of% @List.length_replicate.{0} ∧
    type_of% @List.all_cons.{0} ∧
    type_of% @List.all_nil.{0} ∧
    type_of% @Bool.and_true ∧
    type_of% @Bool.true_and ∧
    type_of% @Bool.false_or ∧
    type_of% @Bool.or_false ∧
    type_of% @Nat.le_refl ∧
    type_of% @Nat.lt_add_one ∧
    type_of% @List.length_append.{0} :=
  ⟨@decide_true, @decide_false, @not_true_eq_false, @not_false_eq_true, @false_and, @and_false, @cond_true.{1}, @cond_false.{1}, @List.take_zero.{0}, @ne_eq.{1}, @true_and, @PV.bool.injEq, @Int.toNat_natCast, @Int.toNat_zero, @Bool.not_false, @Bool.not_true, @Bool.and_self, @Bool.false_eq_true, @Bool.true_eq_false, @forall_const.{1}, @false_implies, @true_implies, @and_true, @implies_true.{1}, @implies_true.{0}, @forall_const.{0}, @Nat.zero_add, @List.length_map.{0,0}, @List.length_cons.{0}, @List.length_nil.{0}, @List.nil_append.{0}, @List.map_cons.{0,0}, @List.map_nil.{0,0}, @Bool.true_or, @List.getElem?_cons_zero.{0}, @List.getElem?_cons_succ.{0}, @Option.map_some.{0,0}, @or_true, @List.getElem?_map.{0,0}, @List.length_replicate.{0}, @List.all_cons.{0}, @List.all_nil.{0}, @Bool.and_true, @Bool.true_and, @Bool.false_or, @Bool.or_false, @Nat.le_refl, @Nat.lt_add_one, @List.length_append.{0}⟩

end Lp

/-! LpRes -/

namespace Lp
open Go
variable {P : Program} {D : TypeId → TInfo} {T : Know}

/-- Whatever is like p is like q. -/
def Tells (p q : PV) : Prop := ∀ (w : World) (ok : Nat → Prop) (v : Value), Rep w ok p v → Rep w ok q v

theorem Tells.refl (p : PV) : Tells p p := fun _ _ _ h => h

theorem tells_nil (sz sz' : Nat) : Tells (.sl sz [] (some true)) (.sl sz' [] none) := by
  intro w ok v h
  cases h with
  | slnil _ _ _ => exact .slnil sz' none (by decide)
  | slz _ _ hq => exact absurd rfl hq
  | sl _ _ _ hq => exact absurd rfl hq

theorem Tells.agg {ps qs : List PV} (hl : ps.length = qs.length) (h : ∀ (i : Nat) (p q : PV), ps[i]? = some p → qs[i]? = some q → Tells p q) : Tells (.agg ps) (.agg qs) := by
  intro w ok v hr
  cases hr with
  | agg _ vs hl' hh =>
    refine .agg _ _ (by omega) fun i q u hq hu => ?_
    have hi : i < ps.length := by rw [hl]; exact (List.getElem?_eq_some_iff.1 hq).1
    exact h i _ q (List.getElem?_eq_getElem hi) hq w ok u (hh i _ u (List.getElem?_eq_getElem hi) hu)

theorem Tells.tup {ps qs : List PV} (hl : ps.length = qs.length) (h : ∀ (i : Nat) (p q : PV), ps[i]? = some p → qs[i]? = some q → Tells p q) : Tells (.tup ps) (.tup qs) := by
  intro w ok v hr
  cases hr with
  | tup _ vs hl' hh =>
    refine .tup _ _ (by omega) fun i q u hq hu => ?_
    have hi : i < ps.length := by rw [hl]; exact (List.getElem?_eq_some_iff.1 hq).1
    exact h i _ q (List.getElem?_eq_getElem hi) hq w ok u (hh i _ u (List.getElem?_eq_getElem hi) hu)

theorem tells2 {f : List PV → PV} (hf : f = PV.agg ∨ f = PV.tup) {a b c d : PV} (h1 : Tells a c) (h2 : Tells b d) : Tells (f [a, b]) (f [c, d]) := by
  have key : ∀ (i : Nat) (p q : PV), [a, b][i]? = some p → [c, d][i]? = some q → Tells p q := by
    intro i p q hp hq
    match i with
    | 0 => cases hp; cases hq; exact h1
    | 1 => cases hp; cases hq; exact h2
    | _ + 2 => simp at hp
  rcases hf with rfl | rfl
  · exact .agg rfl key
  · exact .tup rfl key

theorem FnSpec.res {f : FuncId} {args : List PV} {objs : List Obj} {r r' : PV} (h : FnSpec P f args objs r []) (ht : Tells r r') : FnSpec P f args objs r' [] := by
  refine ⟨h.1, fun w blk vs base hb R ha => (h.2 w blk vs base hb R ha).mono ?_⟩
  rintro e w' ⟨v, blk', h1, h2, h3, h4⟩
  exact ⟨v, blk', h1, h2, .of_rep (ht _ _ _ (repT_nil h3)), h4⟩

theorem FnSpec.arg {f : FuncId} {args args' : List PV} {r : PV} {objs' : List Obj} (h : FnSpec P f args [] r objs') (hl : args'.length = args.length) (ht : ∀ (i : Nat) (p q : PV), args'[i]? = some p → args[i]? = some q → Tells p q) : FnSpec P f args' [] r objs' := by
  refine ⟨h.1, fun w blk vs base hb R ha => h.2 w blk vs base hb R ⟨by rw [← hl]; exact ha.1, fun i q v hq hv => ?_⟩⟩
  have hi : i < args'.length := by rw [hl]; exact (List.getElem?_eq_some_iff.1 hq).1
  exact .of_rep (ht i _ q (List.getElem?_eq_getElem hi) hq _ _ _ (repT_nil (ha.2 i _ v (List.getElem?_eq_getElem hi) hv)))

/-- A slice, the first argument, is nil, or not. -/
theorem FnSpec.nil0 {f : FuncId} {sz : Nat} {xs : List PV} {rest : List PV} {r : PV} {objs' : List Obj} (h1 : FnSpec P f (.sl sz xs (some false) :: rest) [] r objs') (h2 : xs = [] → FnSpec P f (.sl sz [] (some true) :: rest) [] r objs') :
    FnSpec P f (.sl sz xs none :: rest) [] r objs' := by
  refine ⟨h1.1, fun w blk vs base hb R ha => ?_⟩
  obtain ⟨hl, hh⟩ := ha
  match vs, hl with
  | v :: vs, hl =>
    have hr := repT_nil (hh 0 _ v rfl rfl)
    have fin : ∀ p, Rep w (okL base [] blk) p v → RepL (RepT w (okL base [] blk) [] blk) (p :: rest) (v :: vs) := by
      intro p hp
      refine ⟨by simpa using hl, fun i q u hq hu => ?_⟩
      match i with
      | 0 => cases hq; cases hu; exact .of_rep hp
      | i + 1 => exact hh (i + 1) q u hq hu
    cases hr with
    | slnil _ _ hq => exact (h2 rfl).2 w blk _ base hb R (fin _ (.slnil sz (some true) (by decide)))
    | slz _ _ hq a cap hc => exact h1.2 w blk _ base hb R (fin _ (.slz sz (some false) (by decide) a cap hc))
    | sl _ _ _ hq b off cap us hok hlen hcap hsz hcell hrep => exact h1.2 w blk _ base hb R (fin _ (.sl sz xs (some false) (by decide) b off cap us hok hlen hcap hsz hcell hrep))

/-- As FnOk.pureG, for results of which the first lies in a variable. -/
theorem FnOk.pureC {f : FuncId} {n t : Nat} {ty : TypeId} {C : LC} {args : List PV} {r : PV} (h : FnOk P f n [.cell t ty] C) (d : Nat) (hD : ∀ t, TOk P t (D t)) (hT : KOk P none Etop T) (hm : P.follows .mixedOrders = true) (ht : t < n)
    (hw : ∀ Q : Exit → St → Prop, (∀ l ob, Q .ret ⟨tmA n l, ob⟩ = loadR (D ty) (lkA l t) ob fun p _ _ => r = frzT d 0 ob p) → wpc P D T C Q (startS args n)) : FnSpec P f args [] r [] := by
  refine h.pure d hD hT hm (by simp) (hw _ fun l ob => ?_)
  simp only [retR, outL, taR2.2.1 n l t ht, List.map_cons, List.map_nil, onePV]

theorem FnOk.pureC2 {f : FuncId} {n t u : Nat} {ty : TypeId} {C : LC} {args : List PV} {r : PV} (h : FnOk P f n [.cell t ty, .tmp u] C) (d : Nat) (hD : ∀ t, TOk P t (D t)) (hT : KOk P none Etop T) (hm : P.follows .mixedOrders = true) (ht : t < n) (hu : u < n)
    (hw : ∀ Q : Exit → St → Prop, (∀ l ob, Q .ret ⟨tmA n l, ob⟩ = loadR (D ty) (lkA l t) ob fun p _ _ => r = .tup [frzT d 0 ob p, frzT d 0 ob (lkA l u)]) → wpc P D T C Q (startS args n)) : FnSpec P f args [] r [] := by
  refine h.pure d hD hT hm (by simp) (hw _ fun l ob => ?_)
  simp only [retR, outL, taR2.2.1 n l t ht, taR2.2.1 n l u hu, List.map_cons, List.map_nil, onePV]

theorem FnOk.pureC3 {f : FuncId} {n t u x : Nat} {ty : TypeId} {C : LC} {args : List PV} {r : PV} (h : FnOk P f n [.cell t ty, .tmp u, .tmp x] C) (d : Nat) (hD : ∀ t, TOk P t (D t)) (hT : KOk P none Etop T) (hm : P.follows .mixedOrders = true) (ht : t < n) (hu : u < n) (hx : x < n)
    (hw : ∀ Q : Exit → St → Prop, (∀ l ob, Q .ret ⟨tmA n l, ob⟩ = loadR (D ty) (lkA l t) ob fun p _ _ => r = .tup [frzT d 0 ob p, frzT d 0 ob (lkA l u), frzT d 0 ob (lkA l x)]) → wpc P D T C Q (startS args n)) : FnSpec P f args [] r [] := by
  refine h.pure d hD hT hm (by simp) (hw _ fun l ob => ?_)
  simp only [retR, outL, taR2.2.1 n l t ht, taR2.2.1 n l u hu, taR2.2.1 n l x hx, List.map_cons, List.map_nil, onePV]

/-- How a function ends that hands back a slice of its own, out of simp's sight. -/
structure EndM (d t : Nat) (o' : Obj) (S : St) : Prop where
  h : retM d t o' .ret S

theorem endM {d t n : Nat} {o' : Obj} {l : List (Nat × PV)} {ob : List Obj} {k ver : Nat} {o : Obj} (h1 : (tmA n l).getD t .dead = .osl k ver) (h2 : ob[k]? = some o) (h3 : o.live = true) (h4 : o.ver = ver) (h5 : { frzO d (k + 1) ob o with ver := 0 } = o') (h6 : NoRefs [o']) : EndM d t o' ⟨tmA n l, ob⟩ :=
  ⟨.inr rfl, _, k, ver, o, Weak.refl _ _, h1, h2, h3, h4, h5, h6⟩

theorem FnOk.madeG {f : FuncId} {n t : Nat} {C : LC} {args : List PV} {o' : Obj} (h : FnOk P f n [.tmp t] C) (d : Nat) (hD : ∀ t, TOk P t (D t)) (hT : KOk P none Etop T) (hm : P.follows .mixedOrders = true)
    (hw : ∀ Q : Exit → St → Prop, (∀ l ob, Q .ret ⟨tmA n l, ob⟩ = EndM d t o' ⟨tmA n l, ob⟩) → wpc P D T C Q (startS args n)) : FnSpec P f args [] (.osl 0 0) [o'] :=
  h.made d hD hT hm (hw _ fun l ob => propext ⟨fun h => ⟨h⟩, fun h => h.h⟩)

theorem FnOk.useG {f : FuncId} {n t : Nat} {C : LC} {args : List PV} {r : PV} {objs objs' : List Obj} (h : FnOk P f n [.tmp t] C) (hD : ∀ t, TOk P t (D t)) (hT : TabOk P T.fn) (hy : T.Y = fun _ _ _ => False)
    (hg : ∀ g cap ys, T.gives g cap ys → Gives P g cap ys) (hm : P.follows .mixedOrders = true) (hlen : objs'.length = objs.length) (ht : t < n)
    (hw : ∀ Q : Exit → St → Prop, (∀ l ob, Q .ret ⟨tmA n l, ob⟩ = (lkA l t = r ∧ ob = objs')) → wpc P D (T.use objs.length) C Q ⟨(startS args n).tmps, objs⟩) : FnUse P f args objs r objs' := by
  refine h.use hD hT hy hg hm hlen (hw _ fun l ob => ?_)
  simp only [retU, taR2.2.1 n l t ht]
  simp

/-- A table of contracts, as what a function knows that is handed n objects of its caller. -/
theorem knU (l : List (FuncId × Ctr)) (n : Nat) : (((tabL P l).use n).noY = (tabL P l).use n) ∧ (((tabL P l).use n).fn = tabF l) ∧ (((tabL P l).use n).nx = n) := ⟨rfl, rfl, rfl⟩

@[congr] theorem convO_congr {s t : TypeId} {x x' : PV} {objs objs' : List Obj} {K : KT} (h : x = x') (ho : objs = objs') : convO D s t x objs K = convO D s t x' objs' K := by rw [h, ho]
@[congr] theorem nilCheckR_congr' {x x' : PV} {objs objs' : List Obj} {K : KT} (h : x = x') (ho : objs = objs') : nilCheckR x objs K = nilCheckR x' objs' K := by rw [h, ho]

end Lp

/-! LpEq -/

namespace Lp
open Go

variable {P : Program}

/-- A field of such a type, and cells that fit it. -/
def fitT : Option TypeDesc → PV → PV → Bool
  | some (.int k), .int k1 _, .int k2 _ => decide (k1 = k2)
  | some .bool, .bool _, .bool _ => true
  | some .string, .str _, .str _ => true
  | _, _, _ => false

def fitF (P : Program) : Nat → List Field → List PV → List PV → Bool
  | _, [], [], [] => true
  | k, f :: fs, p :: aa, q :: bs => (f.name != "_") && f.offset == k && fitT (P.underlying f.type) p q && fitF P (k + 1) fs aa bs
  | _, _, _, _ => false

theorem part_run {w : World} {t : TypeId} {xs : Array Value} {o : Nat} {v : Value} {d : TypeDesc} (hu : P.underlying t = some d) (hd : (∃ k, d = .int k) ∨ d = .bool ∨ d = .string) (hv : xs[o]? = some v) : (part t xs o).run P w = .ok v w := by
  rcases hd with ⟨k, rfl⟩ | rfl | rfl
  all_goals simp [part, isAgg, run_underlying hu, hv]

theorem eq_run {w : World} {d : Nat} {t : TypeId} {p q : PV} {v u : Value} {ok : Nat → Prop} (hf : fitT (P.underlying t) p q = true) (hv : Rep w ok p v) (hu : Rep w ok q u) :
    ∃ b, eqS p q = some b ∧ (Op.equalIn (d + 1) t v u).run P w = .ok b w ∧ ∃ e, P.underlying t = some e ∧ ((∃ k, e = .int k) ∨ e = .bool ∨ e = .string) := by
  unfold fitT at hf
  split at hf
  · rename_i k k1 a k2 b hk
    have : k1 = k2 := by simpa using hf
    subst this
    cases hv; cases hu
    exact ⟨decide (a = b), by simp [eqS], by rw [run_equalIn_int w d t k1 k a b hk]; rfl, _, hk, .inl ⟨_, rfl⟩⟩
  · rename_i a b hk
    cases hv; cases hu
    exact ⟨a == b, rfl, run_equalIn_bool' w d t a b hk, _, hk, .inr (.inl rfl)⟩
  · rename_i a b hk
    cases hv; cases hu
    refine ⟨decide (a = b), rfl, ?_, _, hk, .inr (.inr rfl)⟩
    rw [run_equalIn_string w d t _ _ hk]
    congr 1
    simp only [ByteArray.toList_eq]
    by_cases h : a = b
    · simp [h]
    · simp [h]
  · cases hf

theorem eqF_run {w : World} {d : Nat} {ok : Nat → Prop} {xs ys : Array Value} : ∀ (fs : List Field) (k : Nat) (aa bs : List PV) (r : Bool), fitF P k fs aa bs = true → eqL aa bs = some r →
    (∀ i p, aa[i]? = some p → ∃ v, xs[k + i]? = some v ∧ Rep w ok p v) → (∀ i p, bs[i]? = some p → ∃ v, ys[k + i]? = some v ∧ Rep w ok p v) →
    (Op.eqFields (d + 1) xs ys fs).run P w = .ok r w
  | [], k, aa, bs, r, hf, he, _, _ => by
    cases aa <;> cases bs <;> simp [fitF] at hf
    simp only [eqL, Option.some.injEq] at he
    subst he
    rfl
  | f :: fs, k, aa, bs, r, hf, he, ha, hb => by
    cases aa with
    | nil => cases bs <;> simp [fitF] at hf
    | cons p aa =>
      cases bs with
      | nil => simp [fitF] at hf
      | cons q bs =>
        simp only [fitF, Bool.and_eq_true, beq_iff_eq, bne_iff_ne] at hf
        obtain ⟨⟨⟨hn, ho⟩, ht⟩, hr⟩ := hf
        obtain ⟨v, hv, rv⟩ := ha 0 p rfl
        obtain ⟨u, hu, ru⟩ := hb 0 q rfl
        obtain ⟨b, hb1, hb2, e, he1, he2⟩ := eq_run (d := d) ht rv ru
        simp only [eqL, hb1] at he
        cases hq : eqL aa bs with
        | none => rw [hq] at he; simp at he
        | some r' =>
          rw [hq] at he
          simp only [Option.some.injEq] at he
          subst he
          have ih := eqF_run (w := w) (d := d) (ok := ok) (xs := xs) (ys := ys) fs (k + 1) aa bs r' hr hq (fun i p h => by have := ha (i + 1) p (by simpa using h); rwa [show k + (i + 1) = k + 1 + i by omega] at this) (fun i p h => by have := hb (i + 1) p (by simpa using h); rwa [show k + (i + 1) = k + 1 + i by omega] at this)
          have p1 := part_run (w := w) (xs := xs) (o := f.offset) he1 he2 (by rw [ho]; simpa using hv)
          have p2 := part_run (w := w) (xs := ys) (o := f.offset) he1 he2 (by rw [ho]; simpa using hu)
          simp only [Op.eqFields, ne_eq, hn, not_false_eq_true, if_true, Sem.run_bind, p1, Result.andThen_ok, p2, hb2]
          cases b
          · simp
          · simpa using ih

theorem eqOk_of {t : TypeId} {aa bs : List PV} (hg : P.eqGuardType P.depth t = false) (ht : P.underlying t = some (.struct (P.fieldsOf t))) (hp : P.stoodInHeld t = false) (hf : fitF P 0 (P.fieldsOf t).toList aa bs = true) : EqOk P t aa bs := by
  refine ⟨hg, fun w ok vs us r hr h1 h2 => ?_⟩
  have e : Op.equal t (.agg ⟨vs⟩) (.agg ⟨us⟩) = Op.equalIn (9999 + 1) t (.agg ⟨vs⟩) (.agg ⟨us⟩) := rfl
  rw [e, run_equalIn_struct w 9999 t _ _ ht hp]
  refine eqF_run (d := 9998) (ok := ok) _ 0 aa bs r hf hr ?_ ?_
  · intro i p hi
    have hlt := (List.getElem?_eq_some_iff.1 hi).1
    have hv : vs[i]? = some (vs[i]'(by rw [← h1.1]; exact hlt)) := List.getElem?_eq_getElem _
    exact ⟨_, by simpa using hv, h1.2 i p _ hi hv⟩
  · intro i p hi
    have hlt := (List.getElem?_eq_some_iff.1 hi).1
    have hv : us[i]? = some (us[i]'(by rw [← h2.1]; exact hlt)) := List.getElem?_eq_getElem _
    exact ⟨_, by simpa using hv, h2.2 i p _ hi hv⟩

end Lp
