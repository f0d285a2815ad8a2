/-
  Part 5 of what the statement rests on: LpC4, LpW30, LpP4, LpW31, LpX, LpRd, LpL6, LpL7. No condition.
-/
import Derived.Test.YtodbjiolgapbfaaLp4
import Derived.Deep.Slices
import Derived.ChangeShapes
import Derived.SizedLaws
import Derived.JoinedOf
import Derived.Below
import Derived.Carry
import Derived.ChangeOld
import Derived.RowKit
import Derived.OpenShut

set_option linter.all false

/-! LpC4 -/

namespace Lp
open Go Go.Proofs
def c_loupelaw05_OrderNested : LC :=
  (.seq (.reg [⟨some 5, .box t__2_string (.tmp 2), none, false⟩,
   ⟨some 6, .assign (.const (.bool false)), none, false⟩])
  (.seq (.seq (.weak (.reg [⟨some 17, .move (.tmp 0), none, false⟩,
   ⟨some 18, .call ⟨.value (.func f_louperef02_Few), ⟨[(.tmp 17), (.const (.int .i64 60))]⟩, ⟨[t_api_Val, t_int]⟩⟩, none, false⟩,
   ⟨some 19, .unOp .not t_bool (.tmp 18), none, false⟩,
   ⟨some 20, .move (.tmp 19), none, false⟩,
   ⟨some 21, .move (.tmp 1), some (some 20, false), false⟩,
   ⟨some 22, .call ⟨.value (.func f_louperef02_Few), ⟨[(.tmp 21), (.const (.int .i64 60))]⟩, ⟨[t_api_Val, t_int]⟩⟩, some (some 20, false), false⟩,
   ⟨some 23, .unOp .not t_bool (.tmp 22), some (some 20, false), false⟩,
   ⟨some 24, .pick (.tmp 20) (.const (.bool true)) (.tmp 23), none, false⟩,
   ⟨some 25, .move (.tmp 24), none, false⟩,
   ⟨some 26, .indexAddr t__2_string (.tmp 5) (.const (.int .i64 0)), some (some 25, false), false⟩,
   ⟨some 27, .load t_string (.tmp 26), some (some 25, false), false⟩,
   ⟨some 28, .call ⟨.value (.func f_louperef02_Utf), ⟨[(.tmp 27)]⟩, ⟨[t_string]⟩⟩, some (some 25, false), false⟩,
   ⟨some 29, .unOp .not t_bool (.tmp 28), some (some 25, false), false⟩,
   ⟨some 30, .pick (.tmp 25) (.const (.bool true)) (.tmp 29), none, false⟩,
   ⟨some 31, .move (.tmp 30), none, false⟩,
   ⟨some 32, .indexAddr t__2_string (.tmp 5) (.const (.int .i64 1)), some (some 31, false), false⟩,
   ⟨some 33, .load t_string (.tmp 32), some (some 31, false), false⟩,
   ⟨some 34, .call ⟨.value (.func f_louperef02_Utf), ⟨[(.tmp 33)]⟩, ⟨[t_string]⟩⟩, some (some 31, false), false⟩,
   ⟨some 35, .unOp .not t_bool (.tmp 34), some (some 31, false), false⟩,
   ⟨some 36, .pick (.tmp 31) (.const (.bool true)) (.tmp 35), none, false⟩]))
  (.cond (.tmp 36)
   (.seq (.reg [⟨some 37, .call ⟨.value (.func f_loupelaw05_alive), ⟨[]⟩, ⟨[]⟩⟩, none, false⟩,
    ⟨some 6, .assign (.tmp 37), none, false⟩])
   .ret)
   .skip))
  (.seq (.reg [⟨some 38, .move (.tmp 0), none, false⟩,
   ⟨some 39, .move (.tmp 1), none, false⟩,
   ⟨some 40, .call ⟨.value (.func f_order_Cmp), ⟨[(.tmp 38), (.tmp 39)]⟩, ⟨[t_api_Val, t_api_Val]⟩⟩, none, false⟩,
   ⟨some 7, .assign (.tmp 40), none, false⟩])
  (.seq (.reg [⟨some 42, .slice t__2_string (.tmp 5) none (some (.const (.int .i64 1))) none, none, false⟩,
   ⟨some 43, .move (.tmp 0), none, false⟩,
   ⟨some 44, .buildSlice t_L_api_Val 1 ⟨[(0, (.tmp 43))]⟩, none, false⟩,
   ⟨some 45, .call ⟨.value (.func f_louperef02_Object), ⟨[(.tmp 42), (.tmp 44)]⟩, ⟨[t_L_string, t_L_api_Val]⟩⟩, none, false⟩,
   ⟨some 41, .move (.tmp 45), none, false⟩,
   ⟨some 46, .extract (.tmp 41) 0, none, false⟩,
   ⟨some 47, .extract (.tmp 41) 1, none, false⟩,
   ⟨some 8, .assign (.tmp 46), none, false⟩,
   ⟨some 9, .assign (.tmp 47), none, false⟩])
  (.seq (.reg [⟨some 49, .slice t__2_string (.tmp 5) none (some (.const (.int .i64 1))) none, none, false⟩,
   ⟨some 50, .move (.tmp 1), none, false⟩,
   ⟨some 51, .buildSlice t_L_api_Val 1 ⟨[(0, (.tmp 50))]⟩, none, false⟩,
   ⟨some 52, .call ⟨.value (.func f_louperef02_Object), ⟨[(.tmp 49), (.tmp 51)]⟩, ⟨[t_L_string, t_L_api_Val]⟩⟩, none, false⟩,
   ⟨some 48, .move (.tmp 52), none, false⟩,
   ⟨some 53, .extract (.tmp 48) 0, none, false⟩,
   ⟨some 54, .extract (.tmp 48) 1, none, false⟩,
   ⟨some 10, .assign (.tmp 53), none, false⟩,
   ⟨some 11, .assign (.tmp 54), none, false⟩])
  (.seq (.reg [⟨some 56, .slice t__2_string (.tmp 5) (some (.const (.int .i64 1))) none none, none, false⟩,
   ⟨some 57, .move (.tmp 1), none, false⟩,
   ⟨some 58, .buildSlice t_L_api_Val 1 ⟨[(0, (.tmp 57))]⟩, none, false⟩,
   ⟨some 59, .call ⟨.value (.func f_louperef02_Object), ⟨[(.tmp 56), (.tmp 58)]⟩, ⟨[t_L_string, t_L_api_Val]⟩⟩, none, false⟩,
   ⟨some 55, .move (.tmp 59), none, false⟩,
   ⟨some 60, .extract (.tmp 55) 0, none, false⟩,
   ⟨some 61, .extract (.tmp 55) 1, none, false⟩,
   ⟨some 12, .assign (.tmp 60), none, false⟩,
   ⟨some 13, .assign (.tmp 61), none, false⟩])
  (.seq (.reg [⟨some 62, .move (.tmp 0), none, false⟩,
   ⟨some 63, .buildSlice t_L_api_Val 1 ⟨[(0, (.tmp 62))]⟩, none, false⟩,
   ⟨some 64, .call ⟨.value (.func f_louperef02_List), ⟨[(.tmp 63)]⟩, ⟨[t_L_api_Val]⟩⟩, none, false⟩,
   ⟨some 65, .move (.tmp 1), none, false⟩,
   ⟨some 66, .buildSlice t_L_api_Val 1 ⟨[(0, (.tmp 65))]⟩, none, false⟩,
   ⟨some 67, .call ⟨.value (.func f_louperef02_List), ⟨[(.tmp 66)]⟩, ⟨[t_L_api_Val]⟩⟩, none, false⟩,
   ⟨some 14, .assign (.tmp 64), none, false⟩,
   ⟨some 15, .assign (.tmp 67), none, false⟩])
  (.seq (.reg [⟨some 68, .move (.tmp 0), none, false⟩,
   ⟨some 69, .move (.tmp 1), none, false⟩,
   ⟨some 70, .buildSlice t_L_api_Val 2 ⟨[(0, (.tmp 68)), (1, (.tmp 69))]⟩, none, false⟩,
   ⟨some 71, .call ⟨.value (.func f_louperef02_List), ⟨[(.tmp 70)]⟩, ⟨[t_L_api_Val]⟩⟩, none, false⟩,
   ⟨some 16, .assign (.tmp 71), none, false⟩])
  (.seq (.seq (.reg [⟨some 72, .move (.tmp 14), none, false⟩,
   ⟨some 73, .move (.tmp 15), none, false⟩,
   ⟨some 74, .call ⟨.value (.func f_order_Cmp), ⟨[(.tmp 72), (.tmp 73)]⟩, ⟨[t_api_Val, t_api_Val]⟩⟩, none, false⟩,
   ⟨some 75, .move (.tmp 7), none, false⟩,
   ⟨some 76, .binOp .neq t_int (.tmp 74) (.tmp 75) t_int, none, false⟩,
   ⟨some 77, .move (.tmp 76), none, false⟩,
   ⟨some 78, .move (.tmp 8), some (some 77, false), false⟩,
   ⟨some 79, .move (.tmp 10), some (some 77, false), false⟩,
   ⟨some 80, .call ⟨.value (.func f_order_Cmp), ⟨[(.tmp 78), (.tmp 79)]⟩, ⟨[t_api_Val, t_api_Val]⟩⟩, some (some 77, false), false⟩,
   ⟨some 81, .move (.tmp 7), some (some 77, false), false⟩,
   ⟨some 82, .binOp .neq t_int (.tmp 80) (.tmp 81) t_int, some (some 77, false), false⟩,
   ⟨some 83, .pick (.tmp 77) (.const (.bool true)) (.tmp 82), none, false⟩,
   ⟨some 84, .move (.tmp 83), none, false⟩,
   ⟨some 85, .move (.tmp 14), some (some 84, false), false⟩,
   ⟨some 86, .move (.tmp 16), some (some 84, false), false⟩,
   ⟨some 87, .call ⟨.value (.func f_order_Cmp), ⟨[(.tmp 85), (.tmp 86)]⟩, ⟨[t_api_Val, t_api_Val]⟩⟩, some (some 84, false), false⟩,
   ⟨some 88, .binOp .neq t_int (.tmp 87) (.const (.int .i64 (-1))) t_int, some (some 84, false), false⟩,
   ⟨some 89, .pick (.tmp 84) (.const (.bool true)) (.tmp 88), none, false⟩])
  (.cond (.tmp 89)
   (.seq (.reg [⟨some 6, .assign (.const (.bool false)), none, false⟩])
   .ret)
   .skip))
  (.seq (.draw [⟨some 90, .call ⟨.value (.func f_loupelaw05_alive), ⟨[]⟩, ⟨[]⟩⟩, none, false⟩,
   ⟨some 91, .move (.tmp 90), none, false⟩,
   ⟨some 92, .indexAddr t__2_string (.tmp 5) (.const (.int .i64 0)), some (some 91, true), false⟩,
   ⟨some 93, .load t_string (.tmp 92), some (some 91, true), false⟩,
   ⟨some 94, .indexAddr t__2_string (.tmp 5) (.const (.int .i64 1)), some (some 91, true), false⟩,
   ⟨some 95, .load t_string (.tmp 94), some (some 91, true), false⟩,
   ⟨some 96, .binOp .eql t_string (.tmp 93) (.tmp 95) t_string, some (some 91, true), false⟩,
   ⟨some 97, .move (.tmp 96), some (some 91, true), false⟩,
   ⟨some 98, .move (.tmp 8), some (some 97, false), false⟩,
   ⟨some 99, .move (.tmp 12), some (some 97, false), false⟩,
   ⟨some 100, .call ⟨.value (.func f_order_Cmp), ⟨[(.tmp 98), (.tmp 99)]⟩, ⟨[t_api_Val, t_api_Val]⟩⟩, some (some 97, false), false⟩,
   ⟨some 101, .binOp .lss t_int (.tmp 100) (.const (.int .i64 0)) t_int, some (some 97, false), false⟩,
   ⟨some 102, .indexAddr t__2_string (.tmp 5) (.const (.int .i64 0)), some (some 97, false), false⟩,
   ⟨some 103, .load t_string (.tmp 102), some (some 97, false), false⟩,
   ⟨some 104, .indexAddr t__2_string (.tmp 5) (.const (.int .i64 1)), some (some 97, false), false⟩,
   ⟨some 105, .load t_string (.tmp 104), some (some 97, false), false⟩,
   ⟨some 106, .binOp .lss t_string (.tmp 103) (.tmp 105) t_string, some (some 97, false), false⟩,
   ⟨some 107, .binOp .eql t_bool (.tmp 101) (.tmp 106) t_bool, some (some 97, false), false⟩,
   ⟨some 108, .pick (.tmp 97) (.const (.bool true)) (.tmp 107), some (some 91, true), false⟩,
   ⟨some 109, .pick (.tmp 91) (.tmp 108) (.const (.bool false)), none, false⟩,
   ⟨some 110, .move (.tmp 109), none, false⟩,
   ⟨some 111, .move (.tmp 14), some (some 110, true), false⟩,
   ⟨some 112, .move (.tmp 8), some (some 110, true), false⟩,
   ⟨some 113, .call ⟨.value (.func f_order_Cmp), ⟨[(.tmp 111), (.tmp 112)]⟩, ⟨[t_api_Val, t_api_Val]⟩⟩, some (some 110, true), false⟩,
   ⟨some 114, .binOp .eql t_int (.tmp 113) (.const (.int .i64 (-1))) t_int, some (some 110, true), false⟩,
   ⟨some 115, .pick (.tmp 110) (.tmp 114) (.const (.bool false)), none, false⟩,
   ⟨some 6, .assign (.tmp 115), none, false⟩]
  [0, 0, 0, 0, 12, 12, 0, 0, 0, 256, 0, 0, 3840, 3840, 16128, 16128, 3840, 0, 0, 0, 0, 0, 2097152, 0, 0, 0, 0])
  .ret))))))))))
theorem k_loupelaw05_OrderNested : FnOk Try.prog f_loupelaw05_OrderNested 116 [.tmp 6] c_loupelaw05_OrderNested := ⟨_, _, Try.func8, by kernel_rfl, rfl, Try.ntmps8, rfl, by kernel_rfl⟩

def c_louperef02_Object : LC :=
  (.seq (.reg [⟨some 4, .assign (.const (.slice none 0 0)), none, false⟩,
   ⟨some 5, .assign (.const (.int .i64 0)), none, false⟩])
  (.seq (.seq (.reg [⟨some 11, .move (.tmp 0), none, false⟩,
   ⟨some 12, .call ⟨.builtin .len, ⟨[(.tmp 11)]⟩, ⟨[t_L_string]⟩⟩, none, false⟩,
   ⟨some 13, .move (.tmp 1), none, false⟩,
   ⟨some 14, .call ⟨.builtin .len, ⟨[(.tmp 13)]⟩, ⟨[t_L_api_Val]⟩⟩, none, false⟩,
   ⟨some 15, .binOp .neq t_int (.tmp 12) (.tmp 14) t_int, none, false⟩])
  (.cond (.tmp 15)
   (.seq (.reg [⟨some 4, .assign (.const (.slice none 0 0)), none, false⟩,
    ⟨some 5, .assign (.const (.int .i64 4)), none, false⟩])
   .ret)
   .skip))
  (.seq (.reg [⟨some 16, .buildSlice t_L_string 0 ⟨[]⟩, none, true⟩,
   ⟨some 6, .assign (.tmp 16), none, false⟩])
  (.seq (.reg [⟨some 17, .buildSlice t_L_api_Val 0 ⟨[]⟩, none, true⟩,
   ⟨some 7, .assign (.tmp 17), none, false⟩])
  (.seq (.reg [⟨some 18, .move (.tmp 0), none, false⟩,
   ⟨some 19, .call ⟨.builtin .len, ⟨[(.tmp 18)]⟩, ⟨[t_L_string]⟩⟩, none, false⟩,
   ⟨some 20, .makeSlice t_L_bool (.tmp 19) (.tmp 19), none, false⟩,
   ⟨some 8, .assign (.tmp 20), none, false⟩])
  (.seq (.block 0 (.loop [true, true, false, false, false, false, true, true, true, false, false, false, false, false, false, false, false, false, false, false, false, false, false, false, false, false, false, false, false, false, false, false, false, false, false, false, false, false, false, false, false, false, false, false, false, false, false, false, false, false, false, false, false, false, false, false, false, false, false, false, false, false, false, false, false, false, false, false, false, false, false, false, false, false, false, false, false, false, false, false, false, false, false, false, false, false, false, false, false, false, false, false, false, false, false, false, false] none
   (.seq (.seq (.reg [⟨some 21, .move (.tmp 6), none, false⟩,
     ⟨some 22, .call ⟨.builtin .len, ⟨[(.tmp 21)]⟩, ⟨[t_L_string]⟩⟩, none, false⟩,
     ⟨some 23, .move (.tmp 0), none, false⟩,
     ⟨some 24, .call ⟨.builtin .len, ⟨[(.tmp 23)]⟩, ⟨[t_L_string]⟩⟩, none, false⟩,
     ⟨some 25, .binOp .lss t_int (.tmp 22) (.tmp 24) t_int, none, false⟩])
    (.cond (.tmp 25)
     .skip
     (.exit 0)))
    (.block 1 (.seq (.reg [⟨some 9, .assign (.const (.int .i64 (-1))), none, false⟩])
     (.seq (.seq (.reg [⟨some 10, .assign (.const (.int .i64 0)), none, false⟩])
     (.block 2 (.loop [true, true, false, false, false, false, true, true, true, true, true, false, false, false, false, false, false, false, false, false, false, false, false, false, false, false, false, false, false, false, false, false, false, false, false, false, false, false, false, false, false, false, false, false, false, false, false, false, false, false, false, false, false, false, false, false, false, false, false, false, false, false, false, false, false, false, false, false, false, false, false, false, false, false, false, false, false, false, false, false, false, false, false, false, false, false, false, false, false, false, false, false, false, false, false, false, false] none
      (.seq (.seq (.reg [⟨some 26, .move (.tmp 10), none, false⟩,
        ⟨some 27, .move (.tmp 0), none, false⟩,
        ⟨some 28, .call ⟨.builtin .len, ⟨[(.tmp 27)]⟩, ⟨[t_L_string]⟩⟩, none, false⟩,
        ⟨some 29, .binOp .lss t_int (.tmp 26) (.tmp 28) t_int, none, false⟩])
       (.cond (.tmp 29)
        .skip
        (.exit 2)))
       (.seq (.block 3 (.seq (.draw [⟨some 32, .move (.tmp 8), none, false⟩,
         ⟨some 33, .move (.tmp 10), none, false⟩,
         ⟨some 34, .indexAddr t_L_bool (.tmp 32) (.tmp 33), none, false⟩,
         ⟨some 35, .load t_bool (.tmp 34), none, false⟩,
         ⟨some 36, .unOp .not t_bool (.tmp 35), none, false⟩,
         ⟨some 37, .move (.tmp 36), none, false⟩,
         ⟨some 38, .move (.tmp 9), some (some 37, true), false⟩,
         ⟨some 39, .binOp .lss t_int (.tmp 38) (.const (.int .i64 0)) t_int, some (some 37, true), false⟩,
         ⟨some 40, .move (.tmp 39), some (some 37, true), false⟩,
         ⟨some 41, .move (.tmp 0), some (some 40, false), false⟩,
         ⟨some 42, .move (.tmp 10), some (some 40, false), false⟩,
         ⟨some 43, .indexAddr t_L_string (.tmp 41) (.tmp 42), some (some 40, false), false⟩,
         ⟨some 44, .load t_string (.tmp 43), some (some 40, false), false⟩,
         ⟨some 45, .move (.tmp 0), some (some 40, false), false⟩,
         ⟨some 46, .move (.tmp 9), some (some 40, false), false⟩,
         ⟨some 47, .indexAddr t_L_string (.tmp 45) (.tmp 46), some (some 40, false), false⟩,
         ⟨some 48, .load t_string (.tmp 47), some (some 40, false), false⟩,
         ⟨some 49, .binOp .lss t_string (.tmp 44) (.tmp 48) t_string, some (some 40, false), false⟩,
         ⟨some 50, .pick (.tmp 40) (.const (.bool true)) (.tmp 49), some (some 37, true), false⟩,
         ⟨some 51, .pick (.tmp 37) (.tmp 50) (.const (.bool false)), none, false⟩]
        [0, 1, 0, 0, 0, 0, 0, 0, 0, 0, 512, 0, 0, 7680, 15872, 7680, 7680, 0, 0, 0])
        (.cond (.tmp 51)
         (.reg [⟨some 52, .move (.tmp 10), none, false⟩,
          ⟨some 9, .assign (.tmp 52), none, false⟩])
         .skip)))
       (.reg [⟨some 30, .move (.tmp 10), none, false⟩,
        ⟨some 31, .binOp .add t_int (.tmp 30) (.const (.int .i64 1)) t_int, none, false⟩,
        ⟨some 10, .assign (.tmp 31), none, false⟩]))))))
     (.seq (.seq (.draw [⟨some 53, .move (.tmp 0), none, false⟩,
      ⟨some 54, .move (.tmp 9), none, false⟩,
      ⟨some 55, .indexAddr t_L_string (.tmp 53) (.tmp 54), none, false⟩,
      ⟨some 56, .load t_string (.tmp 55), none, false⟩,
      ⟨some 57, .call ⟨.value (.func f_louperef02_Utf), ⟨[(.tmp 56)]⟩, ⟨[t_string]⟩⟩, none, false⟩,
      ⟨some 58, .unOp .not t_bool (.tmp 57), none, false⟩,
      ⟨some 59, .move (.tmp 58), none, false⟩,
      ⟨some 60, .move (.tmp 6), some (some 59, false), false⟩,
      ⟨some 61, .call ⟨.builtin .len, ⟨[(.tmp 60)]⟩, ⟨[t_L_string]⟩⟩, some (some 59, false), false⟩,
      ⟨some 62, .binOp .gtr t_int (.tmp 61) (.const (.int .i64 0)) t_int, some (some 59, false), false⟩,
      ⟨some 63, .move (.tmp 62), some (some 59, false), false⟩,
      ⟨some 64, .move (.tmp 6), some (some 63, true), false⟩,
      ⟨some 65, .move (.tmp 6), some (some 63, true), false⟩,
      ⟨some 66, .call ⟨.builtin .len, ⟨[(.tmp 65)]⟩, ⟨[t_L_string]⟩⟩, some (some 63, true), false⟩,
      ⟨some 67, .binOp .sub t_int (.tmp 66) (.const (.int .i64 1)) t_int, some (some 63, true), false⟩,
      ⟨some 68, .indexAddr t_L_string (.tmp 64) (.tmp 67), some (some 63, true), false⟩,
      ⟨some 69, .load t_string (.tmp 68), some (some 63, true), false⟩,
      ⟨some 70, .move (.tmp 0), some (some 63, true), false⟩,
      ⟨some 71, .move (.tmp 9), some (some 63, true), false⟩,
      ⟨some 72, .indexAddr t_L_string (.tmp 70) (.tmp 71), some (some 63, true), false⟩,
      ⟨some 73, .load t_string (.tmp 72), some (some 63, true), false⟩,
      ⟨some 74, .binOp .eql t_string (.tmp 69) (.tmp 73) t_string, some (some 63, true), false⟩,
      ⟨some 75, .pick (.tmp 63) (.tmp 74) (.const (.bool false)), some (some 59, false), false⟩,
      ⟨some 76, .pick (.tmp 59) (.const (.bool true)) (.tmp 75), none, false⟩]
     [0, 1, 0, 0, 0, 0, 0, 0, 0, 0, 0, 0, 2048, 2048, 2048, 0, 0, 129024, 260096, 129024, 129024, 0, 0, 0])
     (.cond (.tmp 76)
      (.seq (.reg [⟨some 4, .assign (.const (.slice none 0 0)), none, false⟩,
       ⟨some 5, .assign (.const (.int .i64 4)), none, false⟩])
      .ret)
      .skip))
     (.seq (.reg [⟨some 77, .move (.tmp 8), none, false⟩,
      ⟨some 78, .move (.tmp 9), none, false⟩,
      ⟨some 79, .indexAddr t_L_bool (.tmp 77) (.tmp 78), none, false⟩,
      ⟨none, .store t_bool (.tmp 79) (.const (.bool true)), none, false⟩])
     (.seq (.reg [⟨some 80, .move (.tmp 6), none, false⟩,
      ⟨some 81, .move (.tmp 0), none, false⟩,
      ⟨some 82, .move (.tmp 9), none, false⟩,
      ⟨some 83, .indexAddr t_L_string (.tmp 81) (.tmp 82), none, false⟩,
      ⟨some 84, .load t_string (.tmp 83), none, false⟩,
      ⟨some 85, .buildSlice t_L_string 1 ⟨[(0, (.tmp 84))]⟩, none, false⟩,
      ⟨some 86, .call ⟨.builtin .append, ⟨[(.tmp 80), (.tmp 85)]⟩, ⟨[t_L_string, t_L_string]⟩⟩, none, false⟩,
      ⟨some 6, .assign (.tmp 86), none, false⟩])
     (.reg [⟨some 87, .move (.tmp 7), none, false⟩,
      ⟨some 88, .move (.tmp 1), none, false⟩,
      ⟨some 89, .move (.tmp 9), none, false⟩,
      ⟨some 90, .indexAddr t_L_api_Val (.tmp 88) (.tmp 89), none, false⟩,
      ⟨some 91, .load t_api_Val (.tmp 90), none, false⟩,
      ⟨some 92, .buildSlice t_L_api_Val 1 ⟨[(0, (.tmp 91))]⟩, none, false⟩,
      ⟨some 93, .call ⟨.builtin .append, ⟨[(.tmp 87), (.tmp 92)]⟩, ⟨[t_L_api_Val, t_L_api_Val]⟩⟩, none, false⟩,
      ⟨some 7, .assign (.tmp 93), none, false⟩]))))))))))
  (.seq (.weak (.reg [⟨some 94, .move (.tmp 6), none, false⟩,
   ⟨some 95, .move (.tmp 7), none, false⟩,
   ⟨some 96, .call ⟨.value (.func f_louperef02_named), ⟨[(.tmp 94), (.tmp 95)]⟩, ⟨[t_L_string, t_L_api_Val]⟩⟩, none, false⟩,
   ⟨some 4, .assign (.tmp 96), none, false⟩,
   ⟨some 5, .assign (.const (.int .i64 0)), none, false⟩]))
  .ret)))))))
theorem k_louperef02_Object : FnOk Try.prog f_louperef02_Object 97 [.tmp 4, .tmp 5] c_louperef02_Object := ⟨_, _, Try.func31, by kernel_rfl, rfl, Try.ntmps31, rfl, by kernel_rfl⟩

def c_louperef02_List : LC :=
  (.seq (.reg [⟨some 2, .assign (.const (.slice none 0 0)), none, false⟩])
  (.seq (.reg [⟨some 5, .move (.tmp 0), none, false⟩,
   ⟨some 6, .call ⟨.builtin .len, ⟨[(.tmp 5)]⟩, ⟨[t_L_api_Val]⟩⟩, none, false⟩,
   ⟨some 7, .build t_api_Node ⟨[(0, (.const (.int .i64 5))), (1, (.tmp 6))]⟩, none, false⟩,
   ⟨some 8, .buildSlice t_api_Val 1 ⟨[(0, (.tmp 7))]⟩, none, true⟩,
   ⟨some 3, .assign (.tmp 8), none, false⟩])
  (.seq (.seq (.reg [⟨some 4, .assign (.const (.int .i64 0)), none, false⟩])
  (.block 0 (.loop [true, false, false, true, true, false, false, false, false, false, false, false, false, false, false, false, false, false, false, false, false, false] none
   (.seq (.seq (.reg [⟨some 9, .move (.tmp 4), none, false⟩,
     ⟨some 10, .move (.tmp 0), none, false⟩,
     ⟨some 11, .call ⟨.builtin .len, ⟨[(.tmp 10)]⟩, ⟨[t_L_api_Val]⟩⟩, none, false⟩,
     ⟨some 12, .binOp .lss t_int (.tmp 9) (.tmp 11) t_int, none, false⟩])
    (.cond (.tmp 12)
     .skip
     (.exit 0)))
    (.seq (.block 1 (.reg [⟨some 15, .move (.tmp 3), none, false⟩,
      ⟨some 16, .move (.tmp 0), none, false⟩,
      ⟨some 17, .move (.tmp 4), none, false⟩,
      ⟨some 18, .indexAddr t_L_api_Val (.tmp 16) (.tmp 17), none, false⟩,
      ⟨some 19, .load t_api_Val (.tmp 18), none, false⟩,
      ⟨some 20, .call ⟨.builtin .append, ⟨[(.tmp 15), (.tmp 19)]⟩, ⟨[t_api_Val, t_api_Val]⟩⟩, none, false⟩,
      ⟨some 3, .assign (.tmp 20), none, false⟩]))
    (.reg [⟨some 13, .move (.tmp 4), none, false⟩,
     ⟨some 14, .binOp .add t_int (.tmp 13) (.const (.int .i64 1)) t_int, none, false⟩,
     ⟨some 4, .assign (.tmp 14), none, false⟩]))))))
  (.seq (.reg [⟨some 21, .move (.tmp 3), none, false⟩,
   ⟨some 2, .assign (.tmp 21), none, false⟩])
  .ret))))
theorem k_louperef02_List : FnOk Try.prog f_louperef02_List 22 [.tmp 2] c_louperef02_List := ⟨_, _, Try.func32, by kernel_rfl, rfl, Try.ntmps32, rfl, by kernel_rfl⟩

def c_louperef02_named : LC :=
  (.seq (.reg [⟨some 4, .assign (.const (.slice none 0 0)), none, false⟩])
  (.seq (.reg [⟨some 9, .move (.tmp 1), none, false⟩,
   ⟨some 10, .call ⟨.builtin .len, ⟨[(.tmp 9)]⟩, ⟨[t_L_api_Val]⟩⟩, none, false⟩,
   ⟨some 11, .build t_api_Node ⟨[(0, (.const (.int .i64 6))), (1, (.tmp 10))]⟩, none, false⟩,
   ⟨some 12, .buildSlice t_api_Val 1 ⟨[(0, (.tmp 11))]⟩, none, true⟩,
   ⟨some 5, .assign (.tmp 12), none, false⟩])
  (.seq (.seq (.reg [⟨some 6, .assign (.const (.int .i64 0)), none, false⟩])
  (.block 0 (.loop [true, true, false, false, false, true, true, false, false, false, false, false, false, false, false, false, false, false, false, false, false, false, false, false, false, false, false, false, false, false, false, false, false, false, false, false, false, false, false, false, false] none
   (.seq (.seq (.reg [⟨some 13, .move (.tmp 6), none, false⟩,
     ⟨some 14, .move (.tmp 1), none, false⟩,
     ⟨some 15, .call ⟨.builtin .len, ⟨[(.tmp 14)]⟩, ⟨[t_L_api_Val]⟩⟩, none, false⟩,
     ⟨some 16, .binOp .lss t_int (.tmp 13) (.tmp 15) t_int, none, false⟩])
    (.cond (.tmp 16)
     .skip
     (.exit 0)))
    (.seq (.block 1 (.seq (.reg [⟨some 19, .move (.tmp 5), none, false⟩,
      ⟨some 20, .call ⟨.builtin .len, ⟨[(.tmp 19)]⟩, ⟨[t_api_Val]⟩⟩, none, false⟩,
      ⟨some 7, .assign (.tmp 20), none, false⟩])
     (.seq (.reg [⟨some 21, .move (.tmp 5), none, false⟩,
      ⟨some 22, .move (.tmp 1), none, false⟩,
      ⟨some 23, .move (.tmp 6), none, false⟩,
      ⟨some 24, .indexAddr t_L_api_Val (.tmp 22) (.tmp 23), none, false⟩,
      ⟨some 25, .load t_api_Val (.tmp 24), none, false⟩,
      ⟨some 26, .call ⟨.builtin .append, ⟨[(.tmp 21), (.tmp 25)]⟩, ⟨[t_api_Val, t_api_Val]⟩⟩, none, false⟩,
      ⟨some 5, .assign (.tmp 26), none, false⟩])
     (.seq (.reg [⟨some 27, .move (.tmp 5), none, false⟩,
      ⟨some 28, .move (.tmp 7), none, false⟩,
      ⟨some 29, .indexAddr t_api_Val (.tmp 27) (.tmp 28), none, false⟩,
      ⟨some 30, .load t_api_Node (.tmp 29), none, false⟩,
      ⟨some 8, .alloc t_api_Node, none, false⟩,
      ⟨none, .store t_api_Node (.tmp 8) (.tmp 30), none, false⟩])
     (.seq (.reg [⟨some 31, .move (.tmp 0), none, false⟩,
      ⟨some 32, .move (.tmp 6), none, false⟩,
      ⟨some 33, .indexAddr t_L_string (.tmp 31) (.tmp 32), none, false⟩,
      ⟨some 34, .load t_string (.tmp 33), none, false⟩,
      ⟨some 35, .fieldAddr t_api_Node (.tmp 8) 2, none, false⟩,
      ⟨none, .store t_string (.tmp 35) (.tmp 34), none, false⟩])
     (.reg [⟨some 36, .move (.tmp 5), none, false⟩,
      ⟨some 37, .move (.tmp 7), none, false⟩,
      ⟨some 38, .load t_api_Node (.tmp 8), none, false⟩,
      ⟨some 39, .indexAddr t_api_Val (.tmp 36) (.tmp 37), none, false⟩,
      ⟨none, .store t_api_Node (.tmp 39) (.tmp 38), none, false⟩]))))))
    (.reg [⟨some 17, .move (.tmp 6), none, false⟩,
     ⟨some 18, .binOp .add t_int (.tmp 17) (.const (.int .i64 1)) t_int, none, false⟩,
     ⟨some 6, .assign (.tmp 18), none, false⟩]))))))
  (.seq (.reg [⟨some 40, .move (.tmp 5), none, false⟩,
   ⟨some 4, .assign (.tmp 40), none, false⟩])
  .ret))))
theorem k_louperef02_named : FnOk Try.prog f_louperef02_named 41 [.tmp 4] c_louperef02_named := ⟨_, _, Try.func69, by kernel_rfl, rfl, Try.ntmps69, rfl, by kernel_rfl⟩

end Lp

/-! LpW30 -/

namespace Lp
open Go Go.Proofs

set_option maxHeartbeats 4000000
set_option maxRecDepth 20000
set_option linter.unusedSimpArgs false

def listV (l : List Vl) : Vl := ⟨5, l.length, [], [], false, 0⟩ :: l.flatten

theorem zNa : (PV.ofV (Value.agg { toList := [Value.int IntKind.i64 0, Value.int IntKind.i64 0, Value.string { data := { toList := [] } }, Value.string { data := { toList := [] } }, Value.bool false, Value.int IntKind.i64 0] })).isAgg = true := rfl
theorem zNp (n : Nd) : (PV.ofV (Value.agg { toList := [Value.int IntKind.i64 0, Value.int IntKind.i64 0, Value.string { data := { toList := [] } }, Value.string { data := { toList := [] } }, Value.bool false, Value.int IntKind.i64 0] })).putCells 0 [.int .i64 n.kind, .int .i64 n.many, .str n.name, .str n.s, .bool n.neg, .int .i64 n.e] = encN n := rfl
theorem nmP (n : Nd) (nm : List UInt8) : (encN n).putCells 2 [.str nm] = encN { n with name := nm } := rfl
theorem enc6 (n : Nd) : (encN n).cells.length = 6 := rfl
theorem enc6s (n : Nd) : (encN n).cells.all PV.storable = true := rfl
theorem enc6a (n : Nd) : (encN n).isAgg = true := rfl
theorem enc6c (n : Nd) : ((encN n).cells.all fun c => !c.isAgg) = true := rfl
theorem enc6t (n : Nd) : PV.agg (List.take 6 (encN n).cells) = encN n := rfl

theorem listV_take (l : List Vl) {i : Nat} {v : Vl} (h : l[i]? = some v) : (l.take (i + 1)).flatten = (l.take i).flatten ++ v := by
  rw [List.take_add_one, h]; simp

theorem flat_take (l : List Vl) {i : Nat} {v : Vl} (h : l[i]? = some v) : (l.take i).flatten.length + v.length ≤ l.flatten.length := by
  have e : l.flatten.length = ((l.take (i + 1)).flatten ++ (l.drop (i + 1)).flatten).length := by rw [← List.flatten_append, List.take_append_drop]
  rw [e, List.take_add_one, h]; simp

/-- A node of zeros. -/
theorem zNl : (PV.ofV (Value.agg { toList := [Value.int IntKind.i64 0, Value.int IntKind.i64 0, Value.string { data := { toList := [] } }, Value.string { data := { toList := [] } }, Value.bool false, Value.int IntKind.i64 0] })).cells.length = 6 := rfl
theorem zNs : (PV.ofV (Value.agg { toList := [Value.int IntKind.i64 0, Value.int IntKind.i64 0, Value.string { data := { toList := [] } }, Value.string { data := { toList := [] } }, Value.bool false, Value.int IntKind.i64 0] })).cells.all PV.storable = true := rfl

theorem map_frzNI (n : Nat) (objs : List Obj) (v : Vl) : (v.map encN).map (PV.mapCells (frzI 0 n objs)) = v.map encN := by
  rw [List.map_map]
  exact List.map_congr_left fun x _ => rfl

theorem nodes_frz (v : Vl) (ver : Nat) (t : TypeId) (rest : List Obj) : frz 1 0 (⟨t, 6, v.map encN, true, ver⟩ :: rest) (.osl 0 ver) = encV v := by
  simp only [frz, Nat.not_lt_zero, if_false, frzI, List.getElem?_cons_zero, Nat.le_refl, decide_true, Bool.true_and, beq_self_eq_true, if_true, map_frzNI]
  rfl

theorem list_spec (l : List Vl) (hl : l.length ≤ 1000000) (hb : l.flatten.length ≤ 1000000) : FnSpec Try.prog f_louperef02_List [encL l] [] (encV (listV l)) [] := by
  refine k_louperef02_List.pureG (T := tabL Try.prog []) 1 hD (kOk_tabL tabOk_nil) hmix (by decide) fun Q hQ => ?_
  try simp only [F_all]
  simp (maxSteps := 400000) only [↓preZ, postZ, coreZ, ↓preU, postU, D_all, F_all, unR, outL, onePV, binS, ↓binS, boundR, ↓boundR, fieldOf, ↓fieldOf, boxR, allocR, newObj, zeroElem, buildSliceR, appendR, setAll, storeR, St.freeze, makeSliceR, minmaxR, makeFuncR, BEq.rfl, reduceIte, reduceCtorEq, Nat.reduceLT, Nat.reduceAdd, Nat.reduceSub, Nat.reduceMul, Nat.reduceBEq, Nat.reduceLeDiff, Int.reduceToNat, Int.reduceLE, hQ, c_louperef02_List, zNl, zNs]
  refine wpc_loop (fun m S => ∃ i ver : Nat, i + m = l.length ∧ S = ⟨tmA 22 [(0, encL l), (3, .osl 0 ver), (4, .int .i64 i)], [⟨t_api_Node, 6, (((⟨5, l.length, [], [], false, 0⟩ : Nd) :: (l.take i).flatten).map encN), true, ver⟩]⟩) l.length ⟨0, 1, by omega, ?_⟩ ?_
  · simp only [normR, keepR, Nat.reduceAdd, lkR, Nat.reduceBEq, F_all, List.map_nil]
    rfl
  rintro m S ⟨i, ver, him, rfl⟩
  rcases Nat.lt_or_ge i l.length with h | h
  rotate_left 1
  · have hlt : ((i : Int) < (l.length : Int)) = False := eq_false (by omega)
    simp (maxSteps := 400000) only [↓preZ, postZ, coreZ, ↓preU, postU, D_all, F_all, unR, outL, onePV, binS, ↓binS, boundR, ↓boundR, fieldOf, ↓fieldOf, boxR, allocR, newObj, zeroElem, buildSliceR, appendR, setAll, storeR, St.freeze, makeSliceR, minmaxR, makeFuncR, BEq.rfl, reduceIte, reduceCtorEq, Nat.reduceLT, Nat.reduceAdd, Nat.reduceSub, Nat.reduceMul, Nat.reduceBEq, Nat.reduceLeDiff, Int.reduceToNat, Int.reduceLE, hQ, hlt]
    rw [List.take_of_length_le h]
    exact (nodes_frz (listV l) ver t_api_Node []).symm
  have hlt : ((i : Int) < (l.length : Int)) = True := eq_true (by omega)
  have hgi := List.getElem?_eq_getElem h
  generalize l[i] = v at hgi
  have hs := listV_take l hgi
  have hf := flat_take l hgi
  have zi : (0 ≤ (i : Int)) = True := eq_true (by omega)
  simp (maxSteps := 400000) only [↓preZ, postZ, coreZ, ↓preU, postU, D_all, F_all, unR, outL, onePV, binS, ↓binS, boundR, ↓boundR, fieldOf, ↓fieldOf, boxR, allocR, newObj, zeroElem, buildSliceR, appendR, setAll, storeR, St.freeze, makeSliceR, minmaxR, makeFuncR, BEq.rfl, reduceIte, reduceCtorEq, Nat.reduceLT, Nat.reduceAdd, Nat.reduceSub, Nat.reduceMul, Nat.reduceBEq, Nat.reduceLeDiff, Int.reduceToNat, Int.reduceLE, hQ, hlt, zi, hgi, zNl, zNs]
  refine ⟨by omega, by omega, ⟨by omega, by omega⟩, m - 1, by omega, i + 1, ver + 1, by omega, ?_⟩
  rw [hs]
  rfl

def ctrList : Ctr := fun args objs K => match args with
  | [a0] => ofE encL a0 (HK.mk : HK fun l => (l.length ≤ 1000000) ∧ (l.flatten.length ≤ 1000000) ∧ K (encV (listV l)) objs 0)
  | _ => False
theorem ctrList_ok : CtrOk Try.prog f_louperef02_List (ctrList) := by
  intro args objs K h
  unfold ctrList at h
  split at h
  · rename_i a0
    obtain ⟨l, rfl, h1, h2, hk⟩ := h
    exact ⟨_, _, _, .pure _ rfl (list_spec l h1 h2), hk⟩
  · exact h.elim
def namedV (nm : List UInt8) : Vl → Vl
  | [] => []
  | n :: r => ⟨6, 1, [], [], false, 0⟩ :: { n with name := nm } :: r

theorem named_spec (nm : List UInt8) (n : Nd) (r : Vl) (hb : r.length ≤ 1000000) : FnSpec Try.prog f_louperef02_named [encT [nm], encL [n :: r]] [] (encV (namedV nm (n :: r))) [] := by
  refine k_louperef02_named.pureG (T := tabL Try.prog []) 1 hD (kOk_tabL tabOk_nil) hmix (by decide) fun Q hQ => ?_
  try simp only [F_all]
  have e01 : ((0 : Int) < ((1 : Nat) : Int)) = True := eq_true (by omega)
  have e11 : ((1 : Int) < ((1 : Nat) : Int)) = False := eq_false (by omega)
  simp (maxSteps := 400000) only [↓preZ, postZ, coreZ, ↓preU, postU, D_all, F_all, unR, outL, onePV, binS, ↓binS, boundR, ↓boundR, fieldOf, ↓fieldOf, boxR, allocR, newObj, zeroElem, buildSliceR, appendR, setAll, storeR, St.freeze, makeSliceR, minmaxR, makeFuncR, BEq.rfl, reduceIte, reduceCtorEq, Nat.reduceLT, Nat.reduceAdd, Nat.reduceSub, Nat.reduceMul, Nat.reduceBEq, Nat.reduceLeDiff, Int.reduceToNat, Int.reduceLE, hQ, c_louperef02_named, zNl, zNs]
  refine wpc_loop (fun m S => (m = 1 ∧ S = ⟨tmA 41 [(0, encT [nm]), (1, encL [n :: r]), (5, .osl 0 1), (6, .int .i64 0)], [⟨t_api_Node, 6, ([⟨6, 1, [], [], false, 0⟩] : Vl).map encN, true, 1⟩]⟩) ∨ ∃ u k, (m = 0 ∧ S = ⟨tmA 41 [(0, encT [nm]), (1, encL [n :: r]), (5, .osl 0 u), (6, .int .i64 1)], [⟨t_api_Node, 6, (namedV nm (n :: r)).map encN, true, u⟩, ⟨t_api_Node, 6, [encN { n with name := nm }], true, k⟩]⟩)) 1 (.inl ⟨rfl, ?_⟩) ?_
  · simp only [normR, keepR, Nat.reduceAdd, lkR, Nat.reduceBEq, F_all, List.map_nil]
    rfl
  rintro m S (⟨rfl, rfl⟩ | ⟨u, k, rfl, rfl⟩)
  rotate_left 1
  · simp (maxSteps := 400000) only [↓preZ, postZ, coreZ, ↓preU, postU, D_all, F_all, unR, outL, onePV, binS, ↓binS, boundR, ↓boundR, fieldOf, ↓fieldOf, boxR, allocR, newObj, zeroElem, buildSliceR, appendR, setAll, storeR, St.freeze, makeSliceR, minmaxR, makeFuncR, BEq.rfl, reduceIte, reduceCtorEq, Nat.reduceLT, Nat.reduceAdd, Nat.reduceSub, Nat.reduceMul, Nat.reduceBEq, Nat.reduceLeDiff, Int.reduceToNat, Int.reduceLE, hQ, e11]
  simp (maxSteps := 400000) only [↓preZ, postZ, coreZ, ↓preU, postU, D_all, F_all, unR, outL, onePV, binS, ↓binS, boundR, ↓boundR, fieldOf, ↓fieldOf, boxR, allocR, newObj, zeroElem, buildSliceR, appendR, setAll, storeR, St.freeze, makeSliceR, minmaxR, makeFuncR, BEq.rfl, reduceIte, reduceCtorEq, Nat.reduceLT, Nat.reduceAdd, Nat.reduceSub, Nat.reduceMul, Nat.reduceBEq, Nat.reduceLeDiff, Int.reduceToNat, Int.reduceLE, hQ, e01, zNl, zNs, zNa, zNp, nmP, enc6, enc6s, enc6a, enc6c, enc6t]
  refine ⟨fun y hy => ?_, by omega, by omega, by omega, by omega, by omega, by omega, ⟨by omega, by omega⟩, 0, by omega, .inr ⟨2, 1, rfl, rfl⟩⟩
  rcases List.mem_cons.1 hy with rfl | hy
  · exact encN_cells n
  · obtain ⟨x, _, rfl⟩ := List.mem_map.1 hy
    exact encN_cells x

def One1 (names : List (List UInt8)) (l : List Vl) : Prop := ∃ nm n r, names = [nm] ∧ l = [n :: r] ∧ r.length ≤ 1000000

theorem named_spec' (names : List (List UInt8)) (l : List Vl) (h : One1 names l) : FnSpec Try.prog f_louperef02_named [encT names, encL l] [] (encV (namedV (names.getD 0 []) (l.getD 0 []))) [] := by
  obtain ⟨nm, n, r, rfl, rfl, hr⟩ := h
  exact named_spec nm n r hr

def ctrNamed : Ctr := fun args objs K => match args with
  | [a0, a1] => ofE encT a0 (HK.mk : HK fun names => ofE encL a1 (HK.mk : HK fun l => (One1 names l) ∧ K (encV (namedV (names.getD 0 []) (l.getD 0 []))) objs 0))
  | _ => False
theorem ctrNamed_ok : CtrOk Try.prog f_louperef02_named (ctrNamed) := by
  intro args objs K h
  unfold ctrNamed at h
  split at h
  · rename_i a0 a1
    obtain ⟨names, rfl, l, rfl, h1, hk⟩ := h
    exact ⟨_, _, _, .pure _ rfl (named_spec' names l h1), hk⟩
  · exact h.elim

end Lp

/-! LpP4 -/

namespace Lp
open Go

theorem clr_nm {v : Vl} (h : nameOf v = []) : clr v = v := by
  cases v with
  | nil => rfl
  | cons n r => simp only [nameOf] at h; simp only [clr, ← h]

theorem map_clr {l : List Vl} (h : ∀ v ∈ l, nameOf v = []) : l.map clr = l := by
  conv => rhs; rw [← List.map_id l]
  exact List.map_congr_left fun v hv => clr_nm (h v hv)

theorem list_one {l : List Vl} (h : ∀ v ∈ l, One v) : One (listV l) := One.made rfl h

theorem list_ok {l : List Vl} (h : ∀ v ∈ l, Ok v) (hl : l.flatten.length ≤ 1000000) : Ok (listV l) where
  one := list_one fun v hv => (h v hv).one
  len := by simp only [listV, List.length_cons]; omega
  all := by
    intro n hn
    rcases List.mem_cons.1 hn with rfl | hn
    · exact ⟨by simp, by simp, by simp⟩
    · obtain ⟨v, hv, hnv⟩ := List.mem_flatten.1 hn
      exact (h v hv).all n hnv

theorem list_parts {l : List Vl} (h : ∀ v ∈ l, Rt v) : partsOf ⟨5, l.length, [], [], false, 0⟩ l.flatten = l := by
  rw [(partsOf_eq (by rw [show (⟨5, l.length, [], [], false, 0⟩ : Nd).many.toNat = l.length from rfl]; exact parts_flatten l fun v hv => (h v hv).one)).1]
  exact map_clr fun v hv => (h v hv).name

theorem cmp_lists (f : Nat) {l k : List Vl} (hl : ∀ v ∈ l, Rt v) (hk : ∀ v ∈ k, Rt v) : cmpV (f + 1) (listV l) (listV k) = lexBy (cmpV f) l k := by
  simp only [listV, cmpV, cmpW, ne_eq, not_true, if_false, list_parts hl, list_parts hk]
  simp

def renm (nm : List UInt8) : Vl → Vl
  | [] => []
  | n :: r => { n with name := nm } :: r

theorem renm_skip (nm : List UInt8) (v : Vl) (k : Nat) : skip (renm nm v) k = skip v k := by
  cases v with
  | nil => rfl
  | cons n r => cases k <;> rfl

theorem renm_one (nm : List UInt8) {v : Vl} (h : One v) : One (renm nm v) := by
  unfold One at *
  rw [renm_skip, h]; cases v <;> rfl

theorem named_eq (nm : List UInt8) {v : Vl} (h : v ≠ []) : namedV nm v = ⟨6, ([renm nm v] : List Vl).length, [], [], false, 0⟩ :: [renm nm v].flatten := by
  cases v with
  | nil => exact absurd rfl h
  | cons n r => simp [namedV, renm]

theorem named_one (nm : List UInt8) {v : Vl} (h : One v) : One (namedV nm v) := by
  rw [named_eq nm h.ne]
  exact One.made rfl fun p hp => by simp only [List.mem_singleton] at hp; subst hp; exact renm_one nm h

theorem named_ok (nm : List UInt8) {v : Vl} (h : Ok v) (hl : v.length ≤ 1000000) : Ok (namedV nm v) where
  one := named_one nm h.one
  len := by cases v <;> simp only [namedV, List.length_cons, List.length_nil] at * <;> omega
  all := by
    cases v with
    | nil => intro n hn; cases hn
    | cons m r =>
      intro n hn
      rcases List.mem_cons.1 hn with rfl | hn
      · exact ⟨by simp, by simp, by simp⟩
      · rcases List.mem_cons.1 hn with rfl | hn
        · have := h.all m (List.mem_cons_self ..)
          exact this
        · exact h.all n (List.mem_cons_of_mem _ hn)

theorem named_parts (nm : List UInt8) {v : Vl} (h : Rt v) : partsOf ⟨6, ([renm nm v] : List Vl).length, [], [], false, 0⟩ [renm nm v].flatten = [v] ∧ labsOf ⟨6, ([renm nm v] : List Vl).length, [], [], false, 0⟩ [renm nm v].flatten = [nm] := by
  have hp : parts (⟨6, ([renm nm v] : List Vl).length, [], [], false, 0⟩ : Nd).many.toNat [renm nm v].flatten = some [renm nm v] := by
    rw [show (⟨6, ([renm nm v] : List Vl).length, [], [], false, 0⟩ : Nd).many.toNat = [renm nm v].length from rfl]
    exact parts_flatten _ fun p hp => by simp only [List.mem_singleton] at hp; subst hp; exact renm_one nm h.one
  obtain ⟨e1, e2⟩ := partsOf_eq hp
  rw [e1, e2]
  obtain ⟨n, r, rfl, hn⟩ := nameOf_nil h.name h.one.ne
  refine ⟨?_, rfl⟩
  simp only [List.map_cons, List.map_nil, renm, clr, ← hn]

theorem cmp_named (f : Nat) (s t : List UInt8) {a b : Vl} (ha : Rt a) (hb : Rt b) : cmpV (f + 1) (namedV s a) (namedV t b) = if cmpS s t = 0 then cmpV f a b else cmpS s t := by
  rw [named_eq s ha.one.ne, named_eq t hb.one.ne]
  simp only [cmpV, cmpW, ne_eq, not_true, if_false, named_parts s ha, named_parts t hb]
  by_cases h : cmpS s t = 0
  · by_cases h2 : cmpV f a b = 0 <;> simp [lexBy, h, h2]
  · simp [lexBy, h]

theorem cmp_one (f : Nat) {a b : Vl} (ha : Rt a) (hb : Rt b) (hl : a.length ≤ f) : cmpV (f + 1) (listV [a]) (listV [b]) = cmpV (f + 1) a b := by
  have e : cmpV (f + 1) a b = cmpV f a b := cmpW_fuel _ (f + 1) f a b (by omega) hl ha hb
  rw [cmp_lists f (by simpa using ha) (by simpa using hb), e]
  by_cases h : cmpV f a b = 0 <;> simp [lexBy, h]

theorem cmp_more (f : Nat) {a b : Vl} (ha : Rt a) (hb : Rt b) (hl : a.length ≤ f) : cmpV (f + 1) (listV [a]) (listV [a, b]) = -1 := by
  rw [cmp_lists f (by simpa using ha) (by simpa using ⟨ha, hb⟩)]
  simp [lexBy, (cmpW_ordr f).refl a ⟨hl, ha⟩]

theorem cmpS_self (s : List UInt8) : cmpS s s = 0 := by simp [cmpS, bl_irrefl]

theorem cmp_same (f : Nat) (s : List UInt8) {a b : Vl} (ha : Rt a) (hb : Rt b) (hl : a.length ≤ f) : cmpV (f + 1) (namedV s a) (namedV s b) = cmpV (f + 1) a b := by
  have e : cmpV (f + 1) a b = cmpV f a b := cmpW_fuel _ (f + 1) f a b (by omega) hl ha hb
  rw [cmp_named f s s ha hb, e, if_pos (cmpS_self s)]

theorem cmp_less (f : Nat) {s t : List UInt8} (hst : s ≠ t) {a b : Vl} (ha : Rt a) (hb : Rt b) : decide (cmpV (f + 1) (namedV s a) (namedV t b) < 0) = Op.bytesLess s t := by
  rw [cmp_named f s t ha hb]
  rcases cmpS_cases s t with ⟨h1, h2⟩ | ⟨h1, h2⟩ | ⟨h1, h2⟩
  · simp [h1, h2]
  · exact absurd h1 hst
  · simp [h2, bl_asymm t s h1]

theorem cmp_kinds (f : Nat) (l : List Vl) (s : List UInt8) {a : Vl} (ha : a ≠ []) : cmpV (f + 1) (listV l) (namedV s a) = -1 := by
  rw [named_eq s ha]
  simp [listV, cmpV, cmpW, cmpI]

end Lp

/-! LpW31 -/

namespace Lp
open Go Go.Proofs

set_option maxHeartbeats 4000000
set_option maxRecDepth 20000
set_option linter.unusedSimpArgs false

theorem obF0 (nm : List UInt8) (v : Vl) (u k q : Nat) : frz 1 0 [⟨t_string, 1, [.str nm], true, u⟩, ⟨t_api_Val, 1, [encV v], true, k⟩, ⟨t_bool, 1, [.bool true], true, q⟩] (.osl 0 u) = encT [nm] := by
  simp only [frz, Nat.not_lt_zero, if_false, frzI, List.getElem?_cons_zero, Nat.le_refl, decide_true, Bool.true_and, beq_self_eq_true, if_true]
  rfl
theorem obF1 (nm : List UInt8) (v : Vl) (u k q : Nat) : frz 1 0 [⟨t_string, 1, [.str nm], true, u⟩, ⟨t_api_Val, 1, [encV v], true, k⟩, ⟨t_bool, 1, [.bool true], true, q⟩] (.osl 1 k) = encL [v] := by
  simp only [frz, Nat.not_lt_zero, if_false, frzI, List.getElem?_cons_zero, List.getElem?_cons_succ, Nat.zero_le, decide_true, Bool.true_and, beq_self_eq_true, if_true]
  rfl

theorem object_spec (nm : List UInt8) (n : Nd) (r : Vl) (hb : r.length ≤ 1000000) (hl : nm.length ≤ 4611686018427387904) (hu : utf nm = true) : FnSpec Try.prog f_louperef02_Object [encT [nm], encL [n :: r]] [] (.tup [encV (namedV nm (n :: r)), .int .i64 0]) [] := by
  refine k_louperef02_Object.pureG2 (T := tabL Try.prog [(f_louperef02_Utf, ctrUtf), (f_louperef02_named, ctrNamed)]) 1 hD (kOk_tabL (tabOk_cons ctrUtf_ok (tabOk_cons ctrNamed_ok tabOk_nil))) hmix (by decide) (by decide) fun Q hQ => ?_
  try simp only [F_all]
  have n11 : (((1 : Nat) : Int) < ((1 : Nat) : Int)) = False := eq_false (by omega)
  have e01 : ((0 : Int) < ((1 : Nat) : Int)) = True := eq_true (by omega)
  have e11 : ((1 : Int) < ((1 : Nat) : Int)) = False := eq_false (by omega)
  simp (maxSteps := 400000) only [↓preZ, postZ, coreZ, ↓preU, postU, D_all, F_all, unR, outL, onePV, binS, ↓binS, boundR, ↓boundR, fieldOf, ↓fieldOf, boxR, allocR, newObj, zeroElem, buildSliceR, appendR, setAll, storeR, St.freeze, makeSliceR, minmaxR, makeFuncR, BEq.rfl, reduceIte, reduceCtorEq, Nat.reduceLT, Nat.reduceAdd, Nat.reduceSub, Nat.reduceMul, Nat.reduceBEq, Nat.reduceLeDiff, Int.reduceToNat, Int.reduceLE, hQ, c_louperef02_Object]
  refine ⟨by omega, by omega, by omega, by omega, ?_⟩
  refine wpc_loop (fun m S => (m = 1 ∧ S = ⟨tmA 97 [(0, encT [nm]), (1, encL [n :: r]), (6, .osl 0 1), (7, .osl 1 1), (8, .osl 2 1)], [⟨t_string, 1, [], true, 1⟩, ⟨t_api_Val, 1, [], true, 1⟩, ⟨t_bool, 1, [.bool false], true, 1⟩]⟩) ∨ ∃ u k q, (m = 0 ∧ S = ⟨tmA 97 [(0, encT [nm]), (1, encL [n :: r]), (6, .osl 0 u), (7, .osl 1 k), (8, .osl 2 q)], [⟨t_string, 1, [.str nm], true, u⟩, ⟨t_api_Val, 1, [encV (n :: r)], true, k⟩, ⟨t_bool, 1, [.bool true], true, q⟩]⟩)) 1 (.inl ⟨rfl, ?_⟩) ?_
  · simp only [normR, keepR, Nat.reduceAdd, lkR, Nat.reduceBEq, F_all, List.map_nil]
  rintro m S (⟨rfl, rfl⟩ | ⟨u, k, q, rfl, rfl⟩)
  rotate_left 1
  · simp (maxSteps := 400000) only [↓preZ, postZ, coreZ, ↓preU, postU, D_all, F_all, unR, outL, onePV, binS, ↓binS, boundR, ↓boundR, fieldOf, ↓fieldOf, boxR, allocR, newObj, zeroElem, buildSliceR, appendR, setAll, storeR, St.freeze, makeSliceR, minmaxR, makeFuncR, BEq.rfl, reduceIte, reduceCtorEq, Nat.reduceLT, Nat.reduceAdd, Nat.reduceSub, Nat.reduceMul, Nat.reduceBEq, Nat.reduceLeDiff, Int.reduceToNat, Int.reduceLE, hQ, n11]
    refine wpc_weak _ (Weak.freeze 1 0 (Nat.zero_le _) _) ?_
    simp (maxSteps := 400000) only [↓preZ, postZ, coreZ, ↓preU, postU, D_all, F_all, unR, outL, onePV, binS, ↓binS, boundR, ↓boundR, fieldOf, ↓fieldOf, boxR, allocR, newObj, zeroElem, buildSliceR, appendR, setAll, storeR, St.freeze, makeSliceR, minmaxR, makeFuncR, BEq.rfl, reduceIte, reduceCtorEq, Nat.reduceLT, Nat.reduceAdd, Nat.reduceSub, Nat.reduceMul, Nat.reduceBEq, Nat.reduceLeDiff, Int.reduceToNat, Int.reduceLE, hQ, obF0, obF1, ↓ctrNamed]
    refine ⟨⟨nm, n, r, rfl, rfl, hb⟩, ?_⟩
    rfl
  have em1 : ((-1 : Int) < 0) = True := eq_true (by omega)
  have e00 : ((0 : Int) < ((0 : Nat) : Int)) = False := eq_false (by omega)
  have z01 : (((0 : Nat) : Int) < ((1 : Nat) : Int)) = True := eq_true (by omega)
  simp (maxSteps := 400000) only [↓preZ, postZ, coreZ, ↓preU, postU, D_all, F_all, unR, outL, onePV, binS, ↓binS, boundR, ↓boundR, fieldOf, ↓fieldOf, boxR, allocR, newObj, zeroElem, buildSliceR, appendR, setAll, storeR, St.freeze, makeSliceR, minmaxR, makeFuncR, BEq.rfl, reduceIte, reduceCtorEq, Nat.reduceLT, Nat.reduceAdd, Nat.reduceSub, Nat.reduceMul, Nat.reduceBEq, Nat.reduceLeDiff, Int.reduceToNat, Int.reduceLE, hQ, e01, z01]
  refine wpc_loop (fun m S => (m = 1 ∧ S = ⟨tmA 97 [(0, encT [nm]), (1, encL [n :: r]), (6, .osl 0 1), (7, .osl 1 1), (8, .osl 2 1), (9, .int .i64 (-1)), (10, .int .i64 0)], [⟨t_string, 1, [], true, 1⟩, ⟨t_api_Val, 1, [], true, 1⟩, ⟨t_bool, 1, [.bool false], true, 1⟩]⟩) ∨ (m = 0 ∧ S = ⟨tmA 97 [(0, encT [nm]), (1, encL [n :: r]), (6, .osl 0 1), (7, .osl 1 1), (8, .osl 2 1), (9, .int .i64 0), (10, .int .i64 1)], [⟨t_string, 1, [], true, 1⟩, ⟨t_api_Val, 1, [], true, 1⟩, ⟨t_bool, 1, [.bool false], true, 1⟩]⟩)) 1 (.inl ⟨rfl, ?_⟩) ?_
  · simp only [normR, keepR, Nat.reduceAdd, lkR, Nat.reduceBEq, F_all, List.map_nil]
  rintro m S (⟨rfl, rfl⟩ | ⟨rfl, rfl⟩)
  · simp (maxSteps := 400000) only [↓preZ, postZ, coreZ, ↓preU, postU, D_all, F_all, unR, outL, onePV, binS, ↓binS, boundR, ↓boundR, fieldOf, ↓fieldOf, boxR, allocR, newObj, zeroElem, buildSliceR, appendR, setAll, storeR, St.freeze, makeSliceR, minmaxR, makeFuncR, BEq.rfl, reduceIte, reduceCtorEq, Nat.reduceLT, Nat.reduceAdd, Nat.reduceSub, Nat.reduceMul, Nat.reduceBEq, Nat.reduceLeDiff, Int.reduceToNat, Int.reduceLE, hQ, e01, em1]
    exact ⟨⟨by omega, by omega⟩, 0, by omega, .inr ⟨rfl, rfl⟩⟩
  simp (maxSteps := 400000) only [↓preZ, postZ, coreZ, ↓preU, postU, D_all, F_all, unR, outL, onePV, binS, ↓binS, boundR, ↓boundR, fieldOf, ↓fieldOf, boxR, allocR, newObj, zeroElem, buildSliceR, appendR, setAll, storeR, St.freeze, makeSliceR, minmaxR, makeFuncR, BEq.rfl, reduceIte, reduceCtorEq, Nat.reduceLT, Nat.reduceAdd, Nat.reduceSub, Nat.reduceMul, Nat.reduceBEq, Nat.reduceLeDiff, Int.reduceToNat, Int.reduceLE, hQ, e11, hu, ↓ctrUtf, e00]
  exact ⟨hl, by omega, 0, by omega, .inr ⟨2, 2, 1, rfl, rfl⟩⟩

theorem object_spec' (names : List (List UInt8)) (l : List Vl) (h : One1 names l) (hl : (names.getD 0 []).length ≤ 4611686018427387904) (hu : utf (names.getD 0 []) = true) : FnSpec Try.prog f_louperef02_Object [encT names, encL l] [] (.tup [encV (namedV (names.getD 0 []) (l.getD 0 [])), .int .i64 0]) [] := by
  obtain ⟨nm, n, r, rfl, rfl, hr⟩ := h
  exact object_spec nm n r hr hl hu

def ctrObject : Ctr := fun args objs K => match args with
  | [a0, a1] => ofE encT a0 (HK.mk : HK fun names => ofE encL a1 (HK.mk : HK fun l => (One1 names l) ∧ ((names.getD 0 []).length ≤ 4611686018427387904) ∧ (utf (names.getD 0 []) = true) ∧ K (.tup [encV (namedV (names.getD 0 []) (l.getD 0 [])), .int .i64 0]) objs 0))
  | _ => False
theorem ctrObject_ok : CtrOk Try.prog f_louperef02_Object (ctrObject) := by
  intro args objs K h
  unfold ctrObject at h
  split at h
  · rename_i a0 a1
    obtain ⟨names, rfl, l, rfl, h1, h2, h3, hk⟩ := h
    exact ⟨_, _, _, .pure _ rfl (object_spec' names l h1 h2 h3), hk⟩
  · exact h.elim

end Lp

/-! LpX -/

namespace Lp
open Go

/-- Cells of a type that can be read are values of this kind. -/
def Rd (P : Program) (t : TypeId) {α : Type} (enc : α → PV) (good : α → Prop) : Prop :=
  ∀ {H : Type} (eh : TypeId × Value → H) (w : World) (fuel : Nat) (cs : List Value) (x : DataW H × List MemPlace), DataW.trod eh P w 0 (fun _ => true) true fuel t cs = some x →
    (∀ n ∈ DataW.weights P t x.1, n ≤ reachBytes) → ∃ a : α, good a ∧ RepL (Rep w (fun _ => True)) (enc a).cells cs

variable {P : Program}

theorem repL_one {R : PV → Value → Prop} {p : PV} {v : Value} (h : R p v) : RepL R [p] [v] :=
  ⟨rfl, fun i q u h1 h2 => by
    cases i with
    | zero => simp at h1 h2; subst h1; subst h2; exact h
    | succ i => simp at h1⟩

theorem Rd.int {t : TypeId} {k : IntKind} (ht : P.underlying t = some (.int k)) : Rd P t (.int k) (inR k) := by
  intro H eh w fuel cs x h _
  obtain ⟨n, rfl, rfl, hw⟩ := DataW.trod_int ht h
  refine ⟨n, ?_, repL_one (.int k n)⟩
  simp only [Lit.wf, Bool.and_eq_true, decide_eq_true_eq] at hw
  cases k <;> simp only [IntKind.min, IntKind.max, IntKind.signed, IntKind.bits, inR] at hw ⊢ <;> first | exact ⟨by simpa using hw.1, by simpa using hw.2⟩ | (simp at hw; omega)

theorem Rd.bool {t : TypeId} (ht : P.underlying t = some .bool) : Rd P t PV.bool (fun _ => True) := by
  intro H eh w fuel cs x h _
  obtain ⟨b, rfl, rfl⟩ := DataW.trod_bool ht h
  exact ⟨b, trivial, repL_one (.bool b)⟩

theorem Rd.str {t : TypeId} (ht : P.underlying t = some .string) : Rd P t PV.str (fun s => s.length ≤ reachBytes) := by
  intro H eh w fuel cs x h hw
  obtain ⟨s, rfl, rfl, _⟩ := DataW.trod_string ht h
  refine ⟨s.data.toList, hw _ ?_, repL_one (rep_str w _ s)⟩
  rw [DataW.weights]; simp

theorem Rd.slice {t e : TypeId} {α : Type} [Inhabited α] {enc : α → PV} {good : α → Prop} {sz : Nat} (ht : P.underlying t = some (.slice e)) (he : Rd P e enc good) (hsz : P.cellsOf e = sz) (hpos : sz ≠ 0) (hc : ∀ a, (enc a).cells.length = sz) :
    Rd P t (fun l : List α => .sl sz (l.map enc) none) (fun l => l.length * P.bytesOf e ≤ reachBytes ∧ ∀ a ∈ l, good a) := by
  intro H eh w fuel cs x h hw
  rcases Go.Deep.open_slice ht h with ⟨rfl, rfl⟩ | ⟨a, len, cap, m, n, D, Pl, rfl, hb, hl, hm, hmm, rfl, hx⟩
  · exact ⟨[], by simp, repL_one (.slnil _ _ (by simp))⟩
  · simp only [if_true] at hmm
    subst hmm
    have hwt : ∀ i, i < len → ∀ n ∈ DataW.weights P e (D i), n ≤ reachBytes := by
      intro i hi n hn
      refine hw n ?_
      rw [DataW.weights, ht]
      simp only [List.mem_cons, List.mem_append]
      right; left
      have key : ∀ (l : List (DataW H)) d, d ∈ l → n ∈ DataW.weights P e d → n ∈ DataW.weightsAll P e l := by
        intro l
        induction l with
        | nil => intro d hd; cases hd
        | cons y ys ih =>
          intro d hd hn
          rw [DataW.weightsAll, List.mem_append]
          rcases List.mem_cons.1 hd with rfl | hd
          · exact .inl hn
          · exact .inr (ih d hd hn)
      exact key _ (D i) (List.mem_map.2 ⟨i, List.mem_range.2 hi, rfl⟩) hn
    have hlen : (len : Nat) * P.bytesOf e ≤ reachBytes := by
      have := hw ((((List.range len).map D).length + ((List.range (m - len)).map fun j => D (len + j)).length) * P.bytesOf e) (by rw [DataW.weights, ht]; exact List.mem_cons_self)
      simp only [List.length_map, List.length_range] at this
      exact Nat.le_trans (Nat.mul_le_mul_right _ (by omega)) this
    obtain ⟨f, hf⟩ : ∃ f : Nat → α × List Value, ∀ i, i < len → good (f i).1 ∧ w.cells? 0 (a.add (i * P.cellsOf e)) (P.cellsOf e) = some (f i).2 ∧ RepL (Rep w (fun _ => True)) (enc (f i).1).cells (f i).2 := by
      have hex : ∀ i, i < len → ∃ y : α × List Value, good y.1 ∧ w.cells? 0 (a.add (i * P.cellsOf e)) (P.cellsOf e) = some y.2 ∧ RepL (Rep w (fun _ => True)) (enc y.1).cells y.2 := by
        intro i hi
        obtain ⟨cs', h1, h2⟩ := hx i (by omega)
        obtain ⟨y, g1, g2⟩ := he eh w n cs' _ h2 (hwt i hi)
        exact ⟨(y, cs'), g1, h1, g2⟩
      exact Go.Deep.choose_lt hex
    rcases Nat.eq_zero_or_pos len with h0 | h0
    · subst h0
      exact ⟨[], by simp, repL_one (.slz _ _ (by simp) a m hm)⟩
    have hspot : a.spot = none := by
      obtain ⟨_, h2, h3⟩ := hf 0 h0
      obtain ⟨_, g1, g2⟩ := World.cells?_some h2
      have := g2 0 (by omega)
      rw [List.getElem?_eq_getElem (by omega)] at this
      have := World.cell?_spot this
      simpa [Addr.add] using this
    obtain ⟨b, off, spot⟩ := a
    simp only at hspot
    subst hspot
    have hcells : ∀ i, i < len → ∀ j, j < sz → w.cell? ⟨b, off + i * sz + j, none⟩ = (f i).2[j]? := by
      intro i hi j hj
      obtain ⟨_, h2, _⟩ := hf i hi
      obtain ⟨_, _, g2⟩ := World.cells?_some h2
      have := g2 j (by omega)
      rw [hsz, add_lit, add_lit] at this
      exact this
    have hget : ∀ (i : Nat) (x : PV), (((List.range len).map fun i => (f i).1).map enc)[i]? = some x → i < len ∧ x = enc (f i).1 := by
      intro i x hx
      have hi : i < len := by
        have := (List.getElem?_eq_some_iff.1 hx).1
        simpa using this
      rw [List.getElem?_map, List.getElem?_map, List.getElem?_range hi] at hx
      simp only [Option.map_some, Option.some.injEq] at hx
      exact ⟨hi, hx.symm⟩
    have hL : (((List.range len).map fun i => (f i).1).map enc).length = len := by simp
    refine ⟨(List.range len).map fun i => (f i).1, ⟨by simpa using hlen, fun y hy => ?_⟩, repL_one ?_⟩
    · obtain ⟨i, hi, rfl⟩ := List.mem_map.1 hy
      exact (hf i (List.mem_range.1 hi)).1
    · have : Rep w (fun _ => True) (.sl sz (((List.range len).map fun i => (f i).1).map enc) none) (.slice (some ⟨b, off, none⟩) (((List.range len).map fun i => (f i).1).map enc).length m) := by
        refine .sl sz _ none (by simp) b off m (fun i j => (f i).2.getD j undef) (fun _ => ⟨trivial, ?_⟩) (by rw [hL]; exact hl) hm (fun i x hx => ?_) (fun i x j p hx hp => ?_) (fun i x j p hx hp => ?_)
        · have := hcells 0 h0 0 (by omega)
          obtain ⟨_, h2, _⟩ := hf 0 h0
          obtain ⟨_, g1, _⟩ := World.cells?_some h2
          rw [List.getElem?_eq_getElem (by omega)] at this
          unfold World.cell? at this
          simp only at this
          cases hb' : w.heap[b]? with
          | none => rw [hb'] at this; simp at this
          | some o => exact (Array.getElem?_eq_some_iff.1 hb').1
        · obtain ⟨_, rfl⟩ := hget i x hx
          exact hc _
        · obtain ⟨hi, rfl⟩ := hget i x hx
          have hj : j < sz := by rw [← hc (f i).1]; exact (List.getElem?_eq_some_iff.1 hp).1
          rw [hcells i hi j hj]
          obtain ⟨_, h2, _⟩ := hf i hi
          obtain ⟨_, g1, _⟩ := World.cells?_some h2
          rw [List.getD_eq_getElem?_getD, List.getElem?_eq_getElem (by omega)]
          rfl
        · obtain ⟨hi, rfl⟩ := hget i x hx
          have hj : j < sz := by rw [← hc (f i).1]; exact (List.getElem?_eq_some_iff.1 hp).1
          obtain ⟨_, h2, h3⟩ := hf i hi
          obtain ⟨_, g1, _⟩ := World.cells?_some h2
          exact h3.2 j p _ hp (by rw [List.getD_eq_getElem?_getD, List.getElem?_eq_getElem (by omega)]; rfl)
      rw [hL] at this
      exact this


theorem weightsEach_mem {H : Type} {n : Nat} : ∀ (ts : List TypeId) (ds : List (DataW H)) (i : Nat) (t : TypeId) (d : DataW H), ts[i]? = some t → ds[i]? = some d → n ∈ DataW.weights P t d → n ∈ DataW.weightsEach P ts ds
  | [], _, i, t, d, h, _, _ => by simp at h
  | _ :: _, [], i, t, d, _, h, _ => by simp at h
  | t' :: ts, d' :: ds, i, t, d, h1, h2, hn => by
    rw [DataW.weightsEach, List.mem_append]
    cases i with
    | zero => simp at h1 h2; subst h1; subst h2; exact .inl hn
    | succ i => exact .inr (weightsEach_mem ts ds i t d (by simpa using h1) (by simpa using h2) hn)

/-- A struct's fields, read. -/
theorem struct_parts {H : Type} {eh : TypeId × Value → H} {w : World} {fuel : Nat} {t : TypeId} {fs : Array Field} {cs : List Value} {x : DataW H × List MemPlace} (ht : P.underlying t = some (.struct fs))
    (h : DataW.trod eh P w 0 (fun _ => true) true fuel t cs = some x) (hw : ∀ n ∈ DataW.weights P t x.1, n ≤ reachBytes) :
    cs.length = P.cellsOf t ∧ ∀ (i off : Nat) (e : TypeId), (fs.toList.map fun f => (f.offset, f.type))[i]? = some (off, e) → ∃ n y, DataW.trod eh P w 0 (fun _ => true) true n e ((cs.drop off).take (P.cellsOf e)) = some y ∧ (∀ m ∈ DataW.weights P e y.1, m ≤ reachBytes) := by
  obtain ⟨xs, n, _, rfl, hl, hlen, hf⟩ := DataW.trod_struct ht h
  refine ⟨hl, fun i off e he => ?_⟩
  rw [List.getElem?_map] at he
  cases hfi : fs.toList[i]? with
  | none => rw [hfi] at he; simp at he
  | some f =>
    rw [hfi] at he
    simp only [Option.map_some, Option.some.injEq, Prod.mk.injEq] at he
    obtain ⟨rfl, rfl⟩ := he
    have hfi' : fs[i]? = some f := by simpa using hfi
    have hi : i < xs.length := by rw [hlen]; exact (Array.getElem?_eq_some_iff.1 hfi').1
    have h1 := hf i f hfi'
    rw [List.getElem?_eq_getElem hi] at h1
    refine ⟨n, xs[i], h1, fun m hm => hw m ?_⟩
    rw [DataW.weights, ht]
    exact weightsEach_mem _ _ i f.type xs[i].1 (by rw [List.getElem?_map, hfi]; rfl) (by rw [List.getElem?_map, List.getElem?_eq_getElem hi]; rfl) hm

/-! ### A law -/

/-- Rows of arguments stay as they read. -/
theorem trodAll_stays {H : Type} {eh : TypeId × Value → H} (hl : laidOutB P = true) {W W' : World} (hb : ∀ b, b < W.heap.size → W'.heap[b]? = W.heap[b]?) :
    ∀ (ts : List TypeId) (vs : List Value) (ds : List (DataW H)) (ps : List MemPlace), (∀ t ∈ ts, P.readableRec t = true ∧ t < P.types.size) → DataW.TrodAll eh P W 0 (fun _ => true) true ts vs ds ps →
      DataW.TrodAll eh P W' 0 (fun b => decide (b < W.heap.size)) true ts vs ds ps
  | [], [], [], ps, _, h => h
  | t :: ts, v :: vs, d :: ds, ps, hr, ⟨p, q, h1, h2, h3⟩ => by
    have hlt : ∀ x ∈ p, x.block < W.heap.size := by obtain ⟨m, hm⟩ := h1; exact DataW.trod_lt m _ _ _ hm
    refine ⟨p, q, Go.WideElems.Trod_stays hl (hr t (by simp)).1 (hr t (by simp)).2 h1 (fun x hx => ?_) (fun x hx => by simpa using hlt x hx), trodAll_stays hl hb ts vs ds q (fun t ht => hr t (by simp [ht])) h2, h3⟩
    cases x with
    | cell b o => exact World.cell?_of_block (w := W) (hb b (hlt _ hx))
    | map b => exact hb b (hlt _ hx)
  | [], _ :: _, _, _, _, h => h.elim
  | [], [], _ :: _, _, _, h => h.elim
  | _ :: _, [], _, _, _, h => h.elim
  | _ :: _, _ :: _, [], _, _, h => h.elim

/-- Arguments that can be read are pure values of which a contract holds: then the law holds. -/
theorem law_lifted {C : Checked} {os : Os} {H : Type} {enc : TypeId × Value → H} {f : FuncId} {fn : Func} {s : ChangeSpec} {tb : TypeId}
    (own : ownKnob C.prog.godebug = none) (started : os.Started) (noInit : C.prog.inits.idxOf? f = none) (hfn : C.prog.funcs[f]? = some fn)
    (witness : ∃ (w : World) (tape : Tape) (i : Input), w.os = os ∧ (w.forCall tape i).Shaped C.prog ∧ i.vars = [] ∧ Input.okWide C.prog (w.forCall tape i) .any w.heap.size f i ∧
      s.pre6 enc C.prog fn [] false (w.forCall tape i).memory i.args ∧ ({} : Assume).holds C.prog (lone (Frame.enter C.prog f i.args .normal) [] (w.forCall tape i)))
    (hlaid : laidOutB C.prog = true) (hr : ∀ t ∈ fn.params.toList, C.prog.readableRec t = true ∧ t < C.prog.types.size)
    (hres : fn.resultTypes.toList = [tb]) (hsz : fn.resultTypes.size = 1) (hb : C.prog.underlying tb = some .bool)
    (hvars : s.vars = []) (hpl : s.plain.varTypes C.prog = []) (hs : ∀ ds : List (DataW H), ds.length = fn.params.toList.length → s.fn H ds = { results := [.lit (.bool true)], args := ds })
    (hread : ∀ (W : World) (base : Nat) (args : List Value) (ds : List (DataW H)) (ps : List MemPlace), (∀ (j : Nat) t v, fn.params[j]? = some t → args[j]? = some v → Value.okWide C.prog W .any base t v) → DataW.TrodAll enc C.prog W 0 (fun _ => true) true fn.params.toList args ds ps → (∀ n ∈ DataW.weightsEach C.prog fn.params.toList ds, n ≤ reachBytes) →
      ∃ pvs, RepL (Rep W (fun _ => True)) pvs args ∧ FnSpec C.prog f pvs [] (.bool true) []) :
    ReturnsInHanded {} C os f .any (s.pre6 enc C.prog fn [] false) (s.post enc C.prog fn false true false false) := by
  refine returnsInHanded_of_change_sized (C := C) own started noInit hfn witness ?_
  intro W base args ds gs before hval hW _ hsize _
  have hW' := hW
  obtain ⟨p, q, hA, hV, rfl, hfz, hnd⟩ := hW
  rw [hvars] at hV
  obtain ⟨rfl, rfl⟩ := Go.ChangeShapes.trodVars_none hV
  have hlen : ds.length = fn.params.toList.length := by
    have : ∀ (ts : List TypeId) (vs : List Value) (ds : List (DataW H)) (ps : List MemPlace), DataW.TrodAll enc C.prog W 0 (fun _ => true) true ts vs ds ps → ds.length = ts.length := by
      intro ts
      induction ts with
      | nil => intro vs ds ps h; cases vs <;> cases ds <;> simp [DataW.TrodAll] at h ⊢
      | cons t ts ih =>
        intro vs ds ps h
        cases vs <;> cases ds <;> simp [DataW.TrodAll] at h ⊢
        obtain ⟨_, _, _, h2, _⟩ := h
        exact ih _ _ _ h2
    exact this _ _ _ _ hA
  rw [hpl, List.append_nil, List.append_nil, List.all_eq_true] at hsize
  obtain ⟨pvs, hrep, hspec⟩ := hread W base args.toList ds p (fun j t v h1 h2 => hval j t v h1 (by simpa using h2)) hA (fun n hn => by simpa using hsize n hn)
  have hargs : RepL (RepT W (okL (fun _ => True) [] (fun _ => none)) [] (fun _ => none)) pvs args.toList :=
    ⟨hrep.1, fun i p v a b => .of_rep ((hrep.2 i p v a b).anyOk fun _ _ _ => ⟨trivial, notLive_nil _ _⟩)⟩
  have hc := hspec.2 W (fun _ => none) args.toList (fun _ => True) (fun _ _ => trivial) (nilObjs _ _ _ _) hargs
  refine Calls.mono hc fun e W' ⟨v, blk', he, _, hv, hheap, hsize', hsm⟩ => ?_
  subst he
  have hv' := hv.bool
  subst hv'
  have hkeep : ∀ b, b < W.heap.size → W'.heap[b]? = W.heap[b]? := fun b hb => hheap b hb (notLive_nil _ _)
  refine ⟨_, rfl, ds, [], p ++ [], [], p, [], hW', ?_, ?_, ?_, ?_, fun h => by cases h⟩
  · rw [List.append_nil, hs ds hlen, hres, hsz]
    exact Go.ChangeShapes.trodAll_mk1 (Go.RowKit.shut_bool hb true)
  · rw [List.append_nil, hs ds hlen]
    exact trodAll_stays hlaid hkeep _ _ _ _ hr hA
  · rw [hvars, List.append_nil, hs ds hlen]; rfl
  · refine ⟨hsm.1, hsm.2, fun i hi => ?_⟩
    rw [hkeep i hi]
    split <;> simp_all

end Lp

/-! LpRd -/

namespace Lp
open Go Go.Proofs

set_option maxHeartbeats 2000000
set_option maxRecDepth 20000

instance : Inhabited Nd := ⟨⟨0, 0, [], [], false, 0⟩⟩

/-- What any node that can be read is. -/
structure BigN (n : Nd) : Prop where
  kind : inR .i64 n.kind
  many : inR .i64 n.many
  name : n.name.length ≤ reachBytes
  s : n.s.length ≤ reachBytes
  e : inR .i64 n.e

theorem one_cell {t : TypeId} (hc : Try.prog.cellsOf t = 1) {cs : List Value} {off : Nat} {v : Value} (h : cs[off]? = some v) : (cs.drop off).take (Try.prog.cellsOf t) = [v] := by
  rw [hc]
  have hl := (List.getElem?_eq_some_iff.1 h).1
  rw [show (cs.drop off) = cs[off] :: cs.drop (off + 1) from List.drop_eq_getElem_cons hl]
  rw [List.getElem?_eq_getElem hl] at h
  cases h
  rw [List.take_succ_cons, List.take_zero]

theorem u_int : Try.prog.underlying t_int = some (.int .i64) := by kernel_rfl
theorem u_string : Try.prog.underlying t_string = some .string := by kernel_rfl
theorem u_bool : Try.prog.underlying t_bool = some .bool := by kernel_rfl
theorem u_val : Try.prog.underlying t_api_Val = some (.slice t_api_Node) := by kernel_rfl
theorem u_vals : Try.prog.underlying t_L_api_Val = some (.slice t_api_Val) := by kernel_rfl
theorem c_int : Try.prog.cellsOf t_int = 1 := by kernel_rfl
theorem c_string : Try.prog.cellsOf t_string = 1 := by kernel_rfl
theorem c_bool : Try.prog.cellsOf t_bool = 1 := by kernel_rfl

theorem u_node : ∃ fs : Array Field, Try.prog.underlying t_api_Node = some (.struct fs) ∧ fs.toList.map (fun f => (f.offset, f.type)) = [(0, t_int), (1, t_int), (2, t_string), (3, t_string), (4, t_bool), (5, t_int)] :=
  ⟨Try.prog.fieldsOf t_api_Node, by kernel_rfl, by kernel_rfl⟩

theorem rd_node : Rd Try.prog t_api_Node encN BigN := by
  intro H eh w fuel cs x h hw
  obtain ⟨fs, ht, hfs⟩ := u_node
  obtain ⟨hl, hp⟩ := struct_parts ht h hw
  rw [hfs] at hp
  have hc : Try.prog.cellsOf t_api_Node = 6 := by kernel_rfl
  rw [hc] at hl
  match cs, hl with
  | [v0, v1, v2, v3, v4, v5], _ =>
    obtain ⟨n0, y0, a0, b0⟩ := hp 0 0 t_int rfl
    obtain ⟨n1, y1, a1, b1⟩ := hp 1 1 t_int rfl
    obtain ⟨n2, y2, a2, b2⟩ := hp 2 2 t_string rfl
    obtain ⟨n3, y3, a3, b3⟩ := hp 3 3 t_string rfl
    obtain ⟨n4, y4, a4, b4⟩ := hp 4 4 t_bool rfl
    obtain ⟨n5, y5, a5, b5⟩ := hp 5 5 t_int rfl
    rw [one_cell c_int (v := v0) rfl] at a0
    rw [one_cell c_int (v := v1) rfl] at a1
    rw [one_cell c_string (v := v2) rfl] at a2
    rw [one_cell c_string (v := v3) rfl] at a3
    rw [one_cell c_bool (v := v4) rfl] at a4
    rw [one_cell c_int (v := v5) rfl] at a5
    obtain ⟨k, g0, r0⟩ := Rd.int u_int eh w n0 _ _ a0 b0
    obtain ⟨m, g1, r1⟩ := Rd.int u_int eh w n1 _ _ a1 b1
    obtain ⟨nm, g2, r2⟩ := Rd.str u_string eh w n2 _ _ a2 b2
    obtain ⟨s, g3, r3⟩ := Rd.str u_string eh w n3 _ _ a3 b3
    obtain ⟨g, _, r4⟩ := Rd.bool u_bool eh w n4 _ _ a4 b4
    obtain ⟨e, g5, r5⟩ := Rd.int u_int eh w n5 _ _ a5 b5
    refine ⟨⟨k, m, nm, s, g, e⟩, ⟨g0, g1, g2, g3, g5⟩, rfl, fun i p v h1 h2 => ?_⟩
    match i with
    | 0 => simp [encN, PV.cells] at h1 h2; subst h1; subst h2; exact r0.2 0 _ _ rfl rfl
    | 1 => simp [encN, PV.cells] at h1 h2; subst h1; subst h2; exact r1.2 0 _ _ rfl rfl
    | 2 => simp [encN, PV.cells] at h1 h2; subst h1; subst h2; exact r2.2 0 _ _ rfl rfl
    | 3 => simp [encN, PV.cells] at h1 h2; subst h1; subst h2; exact r3.2 0 _ _ rfl rfl
    | 4 => simp [encN, PV.cells] at h1 h2; subst h1; subst h2; exact r4.2 0 _ _ rfl rfl
    | 5 => simp [encN, PV.cells] at h1 h2; subst h1; subst h2; exact r5.2 0 _ _ rfl rfl
    | i + 6 => simp [encN, PV.cells] at h1

/-- What any value that can be read is. -/
structure Big (v : Vl) : Prop where
  len : v.length ≤ 1152921504606846976
  txt : ∀ n ∈ v, n.s.length ≤ 4611686018427387904 ∧ n.name.length ≤ 4611686018427387904
  nd : ∀ n ∈ v, BigN n

theorem rd_val : Rd Try.prog t_api_Val encV Big := by
  intro H eh w fuel cs x h hw
  obtain ⟨v, ⟨h1, h2⟩, h3⟩ := Rd.slice (sz := 6) u_val rd_node (by kernel_rfl) (by decide) (fun _ => rfl) eh w fuel cs x h hw
  have hb : Try.prog.bytesOf t_api_Node = 64 := by kernel_rfl
  rw [hb, reachBytes] at h1
  refine ⟨v, ⟨by omega, fun n hn => ?_, h2⟩, h3⟩
  have g := h2 n hn
  have g1 := g.name
  have g2 := g.s
  rw [reachBytes] at g1 g2
  exact ⟨by omega, by omega⟩

/-- What any keys that can be read are. -/
structure BigL (l : List Vl) : Prop where
  len : l.length ≤ 1152921504606846976
  all : ∀ v ∈ l, Big v

theorem rd_vals : Rd Try.prog t_L_api_Val encL BigL := by
  intro H eh w fuel cs x h hw
  obtain ⟨l, ⟨h1, h2⟩, h3⟩ := Rd.slice (sz := 1) u_vals rd_val (by kernel_rfl) (by decide) (fun _ => rfl) eh w fuel cs x h hw
  have hb : Try.prog.bytesOf t_api_Val = 24 := by kernel_rfl
  rw [hb, reachBytes] at h1
  exact ⟨l, ⟨by omega, h2⟩, h3⟩

/-- An argument that is a slice. -/
theorem rd_arg {t e : TypeId} {α : Type} {enc : α → PV} {good : α → Prop} (hu : Try.prog.underlying t = some (.slice e)) (hr : Rd Try.prog t enc good) (h1 : ∀ a, (enc a).cells = [enc a]) {H : Type} {eh : TypeId × Value → H} {w : World} {base : Nat} {v : Value} {d : DataW H} {p : List MemPlace}
    (hv : Value.okWide Try.prog w .any base t v) (h : DataW.Trod eh Try.prog w 0 (fun _ => true) true t v d p) (hw : ∀ n ∈ DataW.weights Try.prog t d, n ≤ reachBytes) : ∃ a : α, good a ∧ Rep w (fun _ => True) (enc a) v := by
  obtain ⟨ad, len, cap, rfl⟩ := Go.WideShapes.okWide_slice hu hv
  obtain ⟨fuel, h⟩ := h
  obtain ⟨a, g, r⟩ := hr eh w fuel _ _ h hw
  rw [h1 a] at r
  exact ⟨a, g, r.2 0 _ _ rfl rfl⟩

theorem repL_cons {R : PV → Value → Prop} {p : PV} {ps : List PV} {v : Value} {vs : List Value} (h : R p v) (hs : RepL R ps vs) : RepL R (p :: ps) (v :: vs) :=
  ⟨by simp [hs.1], fun i q u h1 h2 => by
    cases i with
    | zero => simp at h1 h2; subst h1; subst h2; exact h
    | succ i => exact hs.2 i q u (by simpa using h1) (by simpa using h2)⟩

theorem repL_nil {R : PV → Value → Prop} : RepL R [] [] := ⟨rfl, fun i q u h1 => by simp at h1⟩

end Lp

/-! LpL6 -/

namespace Lp
open Go Go.Proofs

set_option maxHeartbeats 4000000
set_option maxRecDepth 20000
set_option linter.unusedSimpArgs false

def encT2 (p : List UInt8 × List UInt8) : PV := .agg [.str p.1, .str p.2]
structure BigT2 (p : List UInt8 × List UInt8) : Prop where
  one : p.1.length ≤ 4611686018427387904
  two : p.2.length ≤ 4611686018427387904

theorem frzQ (s t : List UInt8) : frz 1 0 [⟨t__2_string, 2, [.agg [.str s, .str t]], true, 1⟩] (.optr 0 1 0 0) = .addr (.agg [.str s, .str t]) := rfl

theorem slA0 (s t : List UInt8) (objs : List Obj) (K : KT) : sliceR D t__2_string (.addr (.agg [.str s, .str t])) none (some (.int .i64 1)) objs K = K (encT [s]) objs 0 := by
  have h1 : (D t_string).kind ≠ .none := by intro h; cases h
  refine propext ⟨fun h => h.2.2.2.2.2.2.2.2.2, fun h => ⟨h1, rfl, rfl, rfl, by decide, rfl, by decide, by decide, by decide, h⟩⟩

theorem slA1 (s t : List UInt8) (objs : List Obj) (K : KT) : sliceR D t__2_string (.addr (.agg [.str s, .str t])) (some (.int .i64 1)) none objs K = K (encT [t]) objs 0 := by
  have h1 : (D t_string).kind ≠ .none := by intro h; cases h
  refine propext ⟨fun h => h.2.2.2.2.2.2.2.2.2, fun h => ⟨h1, rfl, rfl, rfl, by decide, rfl, by decide, by decide, by decide, h⟩⟩

theorem exT0 (x y : PV) (objs : List Obj) (K : KT) : extractR (.tup [x, y]) 0 objs K = K x objs 0 := propext ⟨fun ⟨_, h, k⟩ => by cases h; exact k, fun h => ⟨_, rfl, h⟩⟩
theorem exT1 (x y : PV) (objs : List Obj) (K : KT) : extractR (.tup [x, y]) 1 objs K = K y objs 0 := propext ⟨fun ⟨_, h, k⟩ => by cases h; exact k, fun h => ⟨_, rfl, h⟩⟩

theorem orderNested_spec (a b : Vl) (p : List UInt8 × List UInt8) (ha : Big a) (hb : Big b) (hp : BigT2 p) : FnSpec Try.prog f_loupelaw05_OrderNested [encV a, encV b, encT2 p] [] (.bool true) [] := by
  have la := ha.len
  have lb := hb.len
  obtain ⟨s, t⟩ := p
  obtain ⟨hs, ht⟩ := hp
  simp only at hs ht
  have t60 : Int.toNat 60 = 60 := rfl
  obtain ⟨g, hg⟩ : ∃ g : Nat, g = 60 := ⟨60, rfl⟩
  simp only [encT2]
  refine k_loupelaw05_OrderNested.pureG (T := tabL Try.prog [(f_louperef02_Few, ctrFew), (f_louperef02_Utf, ctrUtf), (f_loupelaw05_alive, ctrAlive), (f_order_Cmp, (ctrOrdCmp (g + 1))), (f_louperef02_Object, ctrObject), (f_louperef02_List, ctrList)]) 1 hD (kOk_tabL (tabOk_cons ctrFew_ok (tabOk_cons ctrUtf_ok (tabOk_cons ctrAlive_ok (tabOk_cons (ctrOrdCmp_ok (g + 1)) (tabOk_cons ctrObject_ok (tabOk_cons ctrList_ok tabOk_nil))))))) hmix (by decide) fun Q hQ => ?_
  try simp only [F_all]
  simp (maxSteps := 400000) only [↓preZ, postZ, coreZ, ↓preU, postU, D_all, F_all, unR, outL, onePV, binS, ↓binS, boundR, ↓boundR, fieldOf, ↓fieldOf, boxR, allocR, newObj, zeroElem, buildSliceR, appendR, setAll, storeR, St.freeze, makeSliceR, minmaxR, makeFuncR, BEq.rfl, reduceIte, reduceCtorEq, Nat.reduceLT, Nat.reduceAdd, Nat.reduceSub, Nat.reduceMul, Nat.reduceBEq, Nat.reduceLeDiff, Int.reduceToNat, Int.reduceLE, hQ, c_loupelaw05_OrderNested]
  refine wpc_weak _ (Weak.freeze 1 0 (Nat.zero_le _) _) ?_
  cases fa : fewB a 60
  · simp (maxSteps := 400000) only [↓preZ, postZ, coreZ, ↓preU, postU, D_all, F_all, unR, outL, onePV, binS, ↓binS, boundR, ↓boundR, fieldOf, ↓fieldOf, boxR, allocR, newObj, zeroElem, buildSliceR, appendR, setAll, storeR, St.freeze, makeSliceR, minmaxR, makeFuncR, BEq.rfl, reduceIte, reduceCtorEq, Nat.reduceLT, Nat.reduceAdd, Nat.reduceSub, Nat.reduceMul, Nat.reduceBEq, Nat.reduceLeDiff, Int.reduceToNat, Int.reduceLE, hQ, frzQ, ↓ctrFew, ↓ctrUtf, ↓ctrAlive, t60, fa]
    exact ⟨by omega, ha.txt⟩
  cases fb : fewB b 60
  · simp (maxSteps := 400000) only [↓preZ, postZ, coreZ, ↓preU, postU, D_all, F_all, unR, outL, onePV, binS, ↓binS, boundR, ↓boundR, fieldOf, ↓fieldOf, boxR, allocR, newObj, zeroElem, buildSliceR, appendR, setAll, storeR, St.freeze, makeSliceR, minmaxR, makeFuncR, BEq.rfl, reduceIte, reduceCtorEq, Nat.reduceLT, Nat.reduceAdd, Nat.reduceSub, Nat.reduceMul, Nat.reduceBEq, Nat.reduceLeDiff, Int.reduceToNat, Int.reduceLE, hQ, frzQ, ↓ctrFew, ↓ctrUtf, ↓ctrAlive, t60, fa, fb]
    exact ⟨by omega, ha.txt, by omega, hb.txt⟩
  cases us : utf s
  · simp (maxSteps := 400000) only [↓preZ, postZ, coreZ, ↓preU, postU, D_all, F_all, unR, outL, onePV, binS, ↓binS, boundR, ↓boundR, fieldOf, ↓fieldOf, boxR, allocR, newObj, zeroElem, buildSliceR, appendR, setAll, storeR, St.freeze, makeSliceR, minmaxR, makeFuncR, BEq.rfl, reduceIte, reduceCtorEq, Nat.reduceLT, Nat.reduceAdd, Nat.reduceSub, Nat.reduceMul, Nat.reduceBEq, Nat.reduceLeDiff, Int.reduceToNat, Int.reduceLE, hQ, frzQ, ↓ctrFew, ↓ctrUtf, ↓ctrAlive, t60, fa, fb, us]
    exact ⟨by omega, ha.txt, by omega, hb.txt, by omega, hs⟩
  cases ut : utf t
  · simp (maxSteps := 400000) only [↓preZ, postZ, coreZ, ↓preU, postU, D_all, F_all, unR, outL, onePV, binS, ↓binS, boundR, ↓boundR, fieldOf, ↓fieldOf, boxR, allocR, newObj, zeroElem, buildSliceR, appendR, setAll, storeR, St.freeze, makeSliceR, minmaxR, makeFuncR, BEq.rfl, reduceIte, reduceCtorEq, Nat.reduceLT, Nat.reduceAdd, Nat.reduceSub, Nat.reduceMul, Nat.reduceBEq, Nat.reduceLeDiff, Int.reduceToNat, Int.reduceLE, hQ, frzQ, ↓ctrFew, ↓ctrUtf, ↓ctrAlive, t60, fa, fb, us, ut]
    exact ⟨by omega, ha.txt, by omega, hb.txt, by omega, hs, by omega, ht⟩
  have oa := fewB_ok (by decide) fa
  have ob := fewB_ok (by decide) fb
  rw [← hg] at oa ob
  have e1 := cmp_one g oa.rt ob.rt oa.len
  have e2 := cmp_same g s oa.rt ob.rt oa.len
  have e3 := cmp_more g oa.rt ob.rt oa.len
  have e4 := cmp_kinds g [a] s oa.rt.one.ne
  have d0 : ∀ x : List UInt8, [x].getD 0 [] = x := fun _ => rfl
  have d1 : ∀ x : Vl, [x].getD 0 [] = x := fun _ => rfl
  have la60 := oa.len
  have lb60 := ob.len
  have f1 : [a].flatten.length ≤ 1000000 := by simp; omega
  have f2 : [b].flatten.length ≤ 1000000 := by simp; omega
  have f3 : [a, b].flatten.length ≤ 1000000 := by simp; omega
  have n1 : List.length (listV [a]) ≤ g + 1 := by simp [listV]; omega
  have o1 : Ok (listV [a]) := list_ok (by simpa using oa.ok) f1
  have o2 : Ok (listV [b]) := list_ok (by simpa using ob.ok) f2
  have o3 : Ok (listV [a, b]) := list_ok (by simpa using ⟨oa.ok, ob.ok⟩) f3
  have q1 : ∀ x, Ok (namedV x a) := fun x => named_ok x oa.ok (by omega)
  have q2 : ∀ x, Ok (namedV x b) := fun x => named_ok x ob.ok (by omega)
  have w1 : ∀ x, One1 [x] [a] := fun x => by
    cases a with
    | nil => exact absurd rfl oa.rt.one.ne
    | cons n r => exact ⟨x, n, r, rfl, rfl, by simp at la60; omega⟩
  have w2 : ∀ x, One1 [x] [b] := fun x => by
    cases b with
    | nil => exact absurd rfl ob.rt.one.ne
    | cons n r => exact ⟨x, n, r, rfl, rfl, by simp at lb60; omega⟩
  have n3 : List.length (namedV s a) ≤ g + 1 := by cases a <;> simp [namedV] at * <;> omega
  by_cases hst : s = t
  · have hst' : (s = t) = True := eq_true hst
    simp (maxSteps := 400000) only [↓preZ, postZ, coreZ, ↓preU, postU, D_all, F_all, unR, outL, onePV, binS, ↓binS, boundR, ↓boundR, fieldOf, ↓fieldOf, boxR, allocR, newObj, zeroElem, buildSliceR, appendR, setAll, storeR, St.freeze, makeSliceR, minmaxR, makeFuncR, BEq.rfl, reduceIte, reduceCtorEq, Nat.reduceLT, Nat.reduceAdd, Nat.reduceSub, Nat.reduceMul, Nat.reduceBEq, Nat.reduceLeDiff, Int.reduceToNat, Int.reduceLE, hQ, frzQ, ↓slA0, ↓slA1, ↓exT0, ↓exT1, ↓ctrFew, ↓ctrUtf, ↓ctrAlive, ↓ctrOrdCmp, ↓ctrObject, ↓ctrList, t60, fa, fb, us, ut, d0, d1, e1, e2, e3, e4, hst']
    exact ⟨by omega, ha.txt, by omega, hb.txt, by omega, hs, by omega, ht, by omega, oa.ok, ob.ok, w1 s, hs, w2 s, hs, w2 t, ht, f1, f2, f3, n1, o1, o2, n3, q1 s, q2 s, n1, o1, o3, by omega, by omega, n1, o1, q1 s⟩
  have e5 := cmp_less g hst oa.rt ob.rt
  have hst' : (s = t) = False := eq_false hst
  cases hbl : Op.bytesLess s t
  · rw [hbl] at e5
    have e6 : (cmpV (g + 1) (namedV s a) (namedV t b) < 0) = False := eq_false (of_decide_eq_false e5)
    simp (maxSteps := 400000) only [↓preZ, postZ, coreZ, ↓preU, postU, D_all, F_all, unR, outL, onePV, binS, ↓binS, boundR, ↓boundR, fieldOf, ↓fieldOf, boxR, allocR, newObj, zeroElem, buildSliceR, appendR, setAll, storeR, St.freeze, makeSliceR, minmaxR, makeFuncR, BEq.rfl, reduceIte, reduceCtorEq, Nat.reduceLT, Nat.reduceAdd, Nat.reduceSub, Nat.reduceMul, Nat.reduceBEq, Nat.reduceLeDiff, Int.reduceToNat, Int.reduceLE, hQ, frzQ, ↓slA0, ↓slA1, ↓exT0, ↓exT1, ↓ctrFew, ↓ctrUtf, ↓ctrAlive, ↓ctrOrdCmp, ↓ctrObject, ↓ctrList, t60, fa, fb, us, ut, d0, d1, e1, e2, e3, e4, hst', e6, hbl]
    exact ⟨by omega, ha.txt, by omega, hb.txt, by omega, hs, by omega, ht, by omega, oa.ok, ob.ok, w1 s, hs, w2 s, hs, w2 t, ht, f1, f2, f3, n1, o1, o2, n3, q1 s, q2 s, n1, o1, o3, by omega, by omega, n3, q1 s, q2 t, by omega, by omega, n1, o1, q1 s⟩
  · rw [hbl] at e5
    have e6 : (cmpV (g + 1) (namedV s a) (namedV t b) < 0) = True := eq_true (of_decide_eq_true e5)
    simp (maxSteps := 400000) only [↓preZ, postZ, coreZ, ↓preU, postU, D_all, F_all, unR, outL, onePV, binS, ↓binS, boundR, ↓boundR, fieldOf, ↓fieldOf, boxR, allocR, newObj, zeroElem, buildSliceR, appendR, setAll, storeR, St.freeze, makeSliceR, minmaxR, makeFuncR, BEq.rfl, reduceIte, reduceCtorEq, Nat.reduceLT, Nat.reduceAdd, Nat.reduceSub, Nat.reduceMul, Nat.reduceBEq, Nat.reduceLeDiff, Int.reduceToNat, Int.reduceLE, hQ, frzQ, ↓slA0, ↓slA1, ↓exT0, ↓exT1, ↓ctrFew, ↓ctrUtf, ↓ctrAlive, ↓ctrOrdCmp, ↓ctrObject, ↓ctrList, t60, fa, fb, us, ut, d0, d1, e1, e2, e3, e4, hst', e6, hbl]
    exact ⟨by omega, ha.txt, by omega, hb.txt, by omega, hs, by omega, ht, by omega, oa.ok, ob.ok, w1 s, hs, w2 s, hs, w2 t, ht, f1, f2, f3, n1, o1, o2, n3, q1 s, q2 s, n1, o1, o3, by omega, by omega, n3, q1 s, q2 t, by omega, by omega, n1, o1, q1 s⟩
end Lp

/-! LpL7 -/

namespace Lp
open Go Go.Proofs

set_option maxHeartbeats 2000000
set_option maxRecDepth 20000

theorem u_t2 : Try.prog.underlying t__2_string = some (.array 2 t_string) := by kernel_rfl

theorem rd_T2 {H : Type} {eh : TypeId × Value → H} {w : World} {base : Nat} {v : Value} {d : DataW H} {p : List MemPlace}
    (hv : Value.okWide Try.prog w .any base t__2_string v) (h : DataW.Trod eh Try.prog w 0 (fun _ => true) true t__2_string v d p) (hw : ∀ n ∈ DataW.weights Try.prog t__2_string d, n ≤ reachBytes) :
    ∃ a, BigT2 a ∧ Rep w (fun _ => True) (encT2 a) v := by
  have hv2 : ∃ cs, v = .agg cs ∧ cs.size = Try.prog.cellsOf t__2_string := by
    simp only [Value.okWide, u_t2] at hv
    obtain ⟨cs, h1, h2, _⟩ := hv
    exact ⟨cs, h1, h2⟩
  obtain ⟨⟨cs⟩, rfl, hl⟩ := hv2
  obtain ⟨fuel, h⟩ := h
  have hc : Try.prog.cellsOf t__2_string = 2 := by kernel_rfl
  rw [hc] at hl
  simp only [List.size_toArray] at hl
  obtain ⟨v0, v1, rfl⟩ : ∃ v0 v1, cs = [v0, v1] := by
    clear h
    match cs, hl with
    | [v0, v1], _ => exact ⟨v0, v1, rfl⟩
  · obtain ⟨xs, m, _, he, _, hxl, hf⟩ := DataW.trod_array u_t2 h
    have h0 := hf 0 (by omega)
    have h1 := hf 1 (by omega)
    rw [c_string] at h0 h1
    match xs, hxl with
    | [y0, y1], _ =>
      have e1 : d = .agg [y0.1, y1.1] := congrArg Prod.fst he
      subst e1
      have w0 : ∀ n ∈ DataW.weights Try.prog t_string y0.1, n ≤ reachBytes := fun n hn => hw n (by rw [DataW.weights, u_t2]; simp [DataW.weightsAll, hn])
      have w1 : ∀ n ∈ DataW.weights Try.prog t_string y1.1, n ≤ reachBytes := fun n hn => hw n (by rw [DataW.weights, u_t2]; simp [DataW.weightsAll, hn])
      obtain ⟨s, g0, r0⟩ := Rd.str u_string eh w m [v0] y0 h0 w0
      obtain ⟨t, g1, r1⟩ := Rd.str u_string eh w m [v1] y1 h1 w1
      rw [reachBytes] at g0 g1
      refine ⟨(s, t), ⟨by show s.length ≤ _; omega, by show t.length ≤ _; omega⟩, ?_⟩
      have k0 : Rep w (fun _ => True) (.str s) v0 := r0.2 0 _ _ rfl rfl
      have k1 : Rep w (fun _ => True) (.str t) v1 := r1.2 0 _ _ rfl rfl
      exact .agg _ _ rfl (fun i p v h1 h2 => by
        match i with
        | 0 => simp at h1 h2; subst h1; subst h2; exact k0
        | 1 => simp at h1 h2; subst h1; subst h2; exact k1
        | i + 2 => simp at h1)
end Lp
