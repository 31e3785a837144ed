/- Bodies of functions, lowered: printed by a program (wip/tools/lower.py); each is held against the program by the kernel. -/
import Derived.Test.YtpednpndahgleaaGreatDoorAvT
import Derived.Test.YtpednpndahgleaaGreatDoorRows
import Derived.KernelRfl
set_option maxRecDepth 100000
set_option linter.unusedSimpArgs false
set_option linter.unusedVariables false
namespace Go.Proofs.YtpednpndahgleaaGreatDoor.Av
open Go

/-! castellan/syntax.number -/
def r_syntax_number_0 : List SOp :=
   [.op ⟨(some 2), (.mv (.av (.int .i64 0))), none⟩,
    .op ⟨(some 3), (.mv (.av (.bool false))), none⟩]
def r_syntax_number_1 : List SOp :=
   [.op ⟨(some 7), (.mv (.tmp 0)), none⟩,
    .op ⟨(some 8), (.call 67 [(.tmp 7), (.av (.int .i64 10)), (.av (.int .i64 64))]), none⟩,
    .op ⟨(some 6), (.mv (.tmp 8)), none⟩,
    .op ⟨(some 9), (.extract (.tmp 6) 0), none⟩,
    .op ⟨(some 10), (.extract (.tmp 6) 1), none⟩,
    .op ⟨(some 4), (.mv (.tmp 9)), none⟩,
    .op ⟨(some 5), (.mv (.tmp 10)), none⟩]
def r_syntax_number_2 : List SOp :=
   [.op ⟨(some 11), (.mv (.tmp 4)), none⟩,
    .op ⟨(some 12), (.mv (.tmp 5)), none⟩,
    .op ⟨(some 13), (.eqk false .iface (.tmp 12) (.av .nilif)), none⟩,
    .op ⟨(some 14), (.mv (.tmp 13)), none⟩,
    .grp none 14 true
      [.op ⟨(some 15), (.mv (.tmp 4)), (some (14, true))⟩,
      .op ⟨(some 16), (.call 7 [(.tmp 15), (.av (.int .i64 10))]), (some (14, true))⟩,
      .op ⟨(some 17), (.mv (.tmp 0)), (some (14, true))⟩,
      .op ⟨(some 18), (.bin .eql (.tmp 16) (.tmp 17)), (some (14, true))⟩]
      19 (.tmp 18),
    .op ⟨(some 2), (.mv (.tmp 11)), none⟩,
    .op ⟨(some 3), (.mv (.tmp 19)), none⟩]
def c_syntax_number : LFun := ⟨20, (.seq (.sreg r_syntax_number_0 [])
  (.seq (.sreg r_syntax_number_1 [true, true, false, false, false, false, false])
  (.seq (.sreg r_syntax_number_2 [true, true, false, false, false, false, false])
  .ret))), [(.tmp 2), (.tmp 3)]⟩
attribute [push_cast] r_syntax_number_0 r_syntax_number_1 r_syntax_number_2
theorem c_syntax_number_eq : lowF Tryz.prog (fun _ _ => 1) 31 = some c_syntax_number.raw := by kernel_rfl

/-! castellan/syntax.Norm -/
def r_syntax_Norm_0 : List SOp :=
   [.op ⟨(some 4), (.mv (.av (.str []))), none⟩,
    .op ⟨(some 5), (.mv (.av (.bool false))), none⟩]
def r_syntax_Norm_1 : List SOp :=
   [.op ⟨(some 10), (.mv (.tmp 1)), none⟩,
    .op ⟨(some 11), (.len true (.tmp 10)), none⟩,
    .op ⟨(some 12), (.bin .gtr (.tmp 11) (.av (.int .i64 4096))), none⟩]
def r_syntax_Norm_2 : List SOp :=
   [.op ⟨(some 4), (.mv (.av (.str []))), none⟩,
    .op ⟨(some 5), (.mv (.av (.bool false))), none⟩]
def r_syntax_Norm_3 : List SOp :=
   [.op ⟨(some 13), (.mv (.tmp 1)), none⟩,
    .op ⟨(some 6), (.mv (.tmp 13)), none⟩,
    .op ⟨(some 7), (.mv (.av (.bool false))), none⟩]
def r_syntax_Norm_4 : List SOp :=
   [.op ⟨(some 14), (.mv (.tmp 0)), none⟩]
def r_syntax_Norm_5 : List SOp :=
   [.op ⟨(some 16), (.bin .eql (.tmp 14) (.av (.int .i64 1))), none⟩,
    .op ⟨(some 15), (.mv (.tmp 16)), none⟩]
def r_syntax_Norm_6 : List SOp :=
   [.op ⟨(some 17), (.mv (.tmp 1)), none⟩,
    .op ⟨(some 18), (.call 27 [(.tmp 17)]), none⟩,
    .op ⟨(some 19), (.mv (.tmp 1)), none⟩,
    .op ⟨(some 20), (.bin .neq (.tmp 19) (.av (.str []))), none⟩,
    .op ⟨(some 21), (.mv (.tmp 20)), none⟩,
    .grp none 21 true
      [.op ⟨(some 22), (.mv (.tmp 1)), (some (21, true))⟩,
      .op ⟨(some 23), (.call 28 [(.tmp 22)]), (some (21, true))⟩]
      24 (.tmp 23),
    .op ⟨(some 6), (.mv (.tmp 18)), none⟩,
    .op ⟨(some 7), (.mv (.tmp 24)), none⟩]
def r_syntax_Norm_7 : List SOp :=
   [.op ⟨(some 26), (.bin .eql (.tmp 14) (.av (.int .i64 2))), none⟩,
    .op ⟨(some 25), (.mv (.tmp 26)), none⟩]
def r_syntax_Norm_8 : List SOp :=
   [.op ⟨(some 27), (.mv (.tmp 1)), none⟩,
    .op ⟨(some 28), (.bin .neq (.tmp 27) (.av (.str []))), none⟩,
    .op ⟨(some 29), (.mv (.tmp 28)), none⟩,
    .grp none 29 true
      [.op ⟨(some 30), (.mv (.tmp 1)), (some (29, true))⟩,
      .op ⟨(some 31), (.call 28 [(.tmp 30)]), (some (29, true))⟩]
      32 (.tmp 31),
    .op ⟨(some 7), (.mv (.tmp 32)), none⟩]
def r_syntax_Norm_9 : List SOp :=
   [.op ⟨(some 34), (.bin .eql (.tmp 14) (.av (.int .i64 3))), none⟩,
    .op ⟨(some 33), (.mv (.tmp 34)), none⟩]
def r_syntax_Norm_10 : List SOp :=
   [.op ⟨(some 35), (.mv (.tmp 1)), none⟩,
    .op ⟨(some 36), (.call 27 [(.tmp 35)]), none⟩,
    .op ⟨(some 37), (.mv (.tmp 1)), none⟩,
    .op ⟨(some 38), (.call 29 [(.tmp 37), (.av (.func 30 []))]), none⟩,
    .op ⟨(some 39), (.bin .lss (.tmp 38) (.av (.int .i64 0))), none⟩,
    .op ⟨(some 6), (.mv (.tmp 36)), none⟩,
    .op ⟨(some 7), (.mv (.tmp 39)), none⟩]
def r_syntax_Norm_11 : List SOp :=
   [.op ⟨(some 41), (.bin .eql (.tmp 14) (.av (.int .i64 4))), none⟩,
    .op ⟨(some 40), (.mv (.tmp 41)), none⟩]
def r_syntax_Norm_12 : List SOp :=
   [.op ⟨(some 43), (.mv (.tmp 1)), none⟩,
    .op ⟨(some 44), (.call 31 [(.tmp 43)]), none⟩,
    .op ⟨(some 42), (.mv (.tmp 44)), none⟩,
    .op ⟨(some 45), (.extract (.tmp 42) 0), none⟩,
    .op ⟨(some 46), (.extract (.tmp 42) 1), none⟩,
    .op ⟨(some 7), (.mv (.tmp 46)), none⟩]
def r_syntax_Norm_13 : List SOp :=
   [.op ⟨(some 48), (.bin .eql (.tmp 14) (.av (.int .i64 5))), none⟩,
    .op ⟨(some 47), (.mv (.tmp 48)), none⟩]
def r_syntax_Norm_14 : List SOp :=
   [.op ⟨(some 49), (.mv (.tmp 1)), none⟩,
    .op ⟨(some 50), (.bin .eql (.tmp 49) (.av (.str [84, 82, 85, 69]))), none⟩,
    .op ⟨(some 51), (.mv (.tmp 50)), none⟩,
    .grp none 51 false
      [.op ⟨(some 52), (.mv (.tmp 1)), (some (51, false))⟩,
      .op ⟨(some 53), (.bin .eql (.tmp 52) (.av (.str [70, 65, 76, 83, 69]))), (some (51, false))⟩]
      54 (.tmp 53),
    .op ⟨(some 7), (.mv (.tmp 54)), none⟩]
def r_syntax_Norm_15 : List SOp :=
   [.op ⟨(some 56), (.bin .eql (.tmp 14) (.av (.int .i64 6))), none⟩,
    .op ⟨(some 55), (.mv (.tmp 56)), none⟩]
def r_syntax_Norm_16 : List SOp :=
   [.op ⟨(some 58), (.mv (.tmp 1)), none⟩,
    .op ⟨(some 59), (.call 32 [(.tmp 58)]), none⟩,
    .op ⟨(some 57), (.mv (.tmp 59)), none⟩,
    .op ⟨(some 60), (.extract (.tmp 57) 0), none⟩,
    .op ⟨(some 61), (.extract (.tmp 57) 1), none⟩,
    .op ⟨(some 8), (.mv (.tmp 60)), none⟩,
    .op ⟨(some 9), (.mv (.tmp 61)), none⟩]
def r_syntax_Norm_17 : List SOp :=
   [.op ⟨(some 62), (.mv (.tmp 8)), none⟩,
    .op ⟨(some 63), (.mv (.tmp 9)), none⟩,
    .op ⟨(some 64), (.bin .eql (.tmp 63) (.av (.int .i64 0))), none⟩,
    .op ⟨(some 6), (.mv (.tmp 62)), none⟩,
    .op ⟨(some 7), (.mv (.tmp 64)), none⟩]
def r_syntax_Norm_18 : List SOp :=
   [.op ⟨(some 66), (.bin .eql (.tmp 14) (.av (.int .i64 7))), none⟩,
    .op ⟨(some 65), (.mv (.tmp 66)), none⟩]
def r_syntax_Norm_19 : List SOp :=
   [.op ⟨(some 7), (.mv (.av (.bool true))), none⟩]
def r_syntax_Norm_20 : List SOp :=
   [.op ⟨(some 68), (.bin .eql (.tmp 14) (.av (.int .i64 8))), none⟩,
    .op ⟨(some 67), (.mv (.tmp 68)), none⟩]
def r_syntax_Norm_21 : List SOp :=
   [.op ⟨(some 69), (.mv (.tmp 1)), none⟩,
    .op ⟨(some 70), (.call 33 [(.tmp 69)]), none⟩,
    .op ⟨(some 7), (.mv (.tmp 70)), none⟩]
def r_syntax_Norm_22 : List SOp :=
   [.op ⟨(some 71), (.mv (.tmp 7)), none⟩,
    .op ⟨(some 72), (.un .not (.tmp 71)), none⟩]
def r_syntax_Norm_23 : List SOp :=
   [.op ⟨(some 4), (.mv (.av (.str []))), none⟩,
    .op ⟨(some 5), (.mv (.av (.bool false))), none⟩]
def r_syntax_Norm_24 : List SOp :=
   [.op ⟨(some 73), (.mv (.tmp 6)), none⟩,
    .op ⟨(some 4), (.mv (.tmp 73)), none⟩,
    .op ⟨(some 5), (.mv (.av (.bool true))), none⟩]
def c_syntax_Norm : LFun := ⟨74, (.seq (.sreg r_syntax_Norm_0 [])
  (.seq (.seq (.sreg r_syntax_Norm_1 [true, false, false])
  (.cond (.tmp 12) (.seq (.sreg r_syntax_Norm_2 [])
  .ret)
  .skip))
  (.seq (.sreg r_syntax_Norm_3 [true, true, false])
  (.seq (.seq (.sreg r_syntax_Norm_4 [])
  (.block 0 (.seq (.sreg r_syntax_Norm_5 [true, false])
  (.cond (.tmp 15) (.sreg r_syntax_Norm_6 [true, true, false, false, false, false, false, false])
  (.seq (.sreg r_syntax_Norm_7 [true, false])
  (.cond (.tmp 25) (.sreg r_syntax_Norm_8 [true, false, false, false, false])
  (.seq (.sreg r_syntax_Norm_9 [true, false])
  (.cond (.tmp 33) (.sreg r_syntax_Norm_10 [true, true, false, false, false, false, false])
  (.seq (.sreg r_syntax_Norm_11 [true, false])
  (.cond (.tmp 40) (.sreg r_syntax_Norm_12 [true, false, false, false, false, false])
  (.seq (.sreg r_syntax_Norm_13 [true, false])
  (.cond (.tmp 47) (.sreg r_syntax_Norm_14 [true, false, false, false, false])
  (.seq (.sreg r_syntax_Norm_15 [true, false])
  (.cond (.tmp 55) (.seq (.sreg r_syntax_Norm_16 [true, true, false, false, false, false, false])
  (.sreg r_syntax_Norm_17 [true, true, false, false, false]))
  (.seq (.sreg r_syntax_Norm_18 [true, false])
  (.cond (.tmp 65) (.sreg r_syntax_Norm_19 [])
  (.seq (.sreg r_syntax_Norm_20 [true, false])
  (.cond (.tmp 67) (.sreg r_syntax_Norm_21 [true, false, false])
  .skip))))))))))))))))))
  (.seq (.seq (.sreg r_syntax_Norm_22 [true, false])
  (.cond (.tmp 72) (.seq (.sreg r_syntax_Norm_23 [])
  .ret)
  .skip))
  (.seq (.sreg r_syntax_Norm_24 [true, true, false])
  .ret)))))), [(.tmp 4), (.tmp 5)]⟩
attribute [push_cast] r_syntax_Norm_0 r_syntax_Norm_1 r_syntax_Norm_2 r_syntax_Norm_3 r_syntax_Norm_4 r_syntax_Norm_5 r_syntax_Norm_6 r_syntax_Norm_7 r_syntax_Norm_8 r_syntax_Norm_9 r_syntax_Norm_10 r_syntax_Norm_11 r_syntax_Norm_12 r_syntax_Norm_13 r_syntax_Norm_14 r_syntax_Norm_15 r_syntax_Norm_16 r_syntax_Norm_17 r_syntax_Norm_18 r_syntax_Norm_19 r_syntax_Norm_20 r_syntax_Norm_21 r_syntax_Norm_22 r_syntax_Norm_23 r_syntax_Norm_24
theorem c_syntax_Norm_eq : lowF Tryz.prog (fun _ _ => 1) 8 = some c_syntax_Norm.raw := by kernel_rfl

/-! castellan/syntax.Order -/
def r_syntax_Order_0 : List SOp :=
   [.op ⟨(some 6), (.mv (.av (.int .i64 0))), none⟩,
    .op ⟨(some 7), (.mv (.av (.bool false))), none⟩]
def r_syntax_Order_1 : List SOp :=
   [.op ⟨(some 17), (.mv (.tmp 0)), none⟩,
    .op ⟨(some 18), (.mv (.tmp 1)), none⟩,
    .op ⟨(some 19), (.call 8 [(.tmp 17), (.tmp 18)]), none⟩,
    .op ⟨(some 16), (.mv (.tmp 19)), none⟩,
    .op ⟨(some 20), (.extract (.tmp 16) 0), none⟩,
    .op ⟨(some 21), (.extract (.tmp 16) 1), none⟩,
    .op ⟨(some 8), (.mv (.tmp 20)), none⟩,
    .op ⟨(some 9), (.mv (.tmp 21)), none⟩]
def r_syntax_Order_2 : List SOp :=
   [.op ⟨(some 23), (.mv (.tmp 0)), none⟩,
    .op ⟨(some 24), (.mv (.tmp 2)), none⟩,
    .op ⟨(some 25), (.call 8 [(.tmp 23), (.tmp 24)]), none⟩,
    .op ⟨(some 22), (.mv (.tmp 25)), none⟩,
    .op ⟨(some 26), (.extract (.tmp 22) 0), none⟩,
    .op ⟨(some 27), (.extract (.tmp 22) 1), none⟩,
    .op ⟨(some 10), (.mv (.tmp 26)), none⟩,
    .op ⟨(some 11), (.mv (.tmp 27)), none⟩]
def r_syntax_Order_3 : List SOp :=
   [.op ⟨(some 28), (.mv (.tmp 9)), none⟩,
    .op ⟨(some 29), (.un .not (.tmp 28)), none⟩,
    .op ⟨(some 30), (.mv (.tmp 29)), none⟩,
    .grp none 30 false
      [.op ⟨(some 31), (.mv (.tmp 11)), (some (30, false))⟩,
      .op ⟨(some 32), (.un .not (.tmp 31)), (some (30, false))⟩]
      33 (.tmp 32),
    .op ⟨(some 34), (.mv (.tmp 33)), none⟩,
    .grp none 34 false
      [.op ⟨(some 35), (.mv (.tmp 0)), (some (34, false))⟩,
      .op ⟨(some 36), (.bin .eql (.tmp 35) (.av (.int .i64 5))), (some (34, false))⟩]
      37 (.tmp 36),
    .op ⟨(some 38), (.mv (.tmp 37)), none⟩,
    .grp none 38 false
      [.op ⟨(some 39), (.mv (.tmp 0)), (some (38, false))⟩,
      .op ⟨(some 40), (.bin .eql (.tmp 39) (.av (.int .i64 6))), (some (38, false))⟩]
      41 (.tmp 40),
    .op ⟨(some 42), (.mv (.tmp 41)), none⟩,
    .grp none 42 false
      [.op ⟨(some 43), (.mv (.tmp 0)), (some (42, false))⟩,
      .op ⟨(some 44), (.bin .eql (.tmp 43) (.av (.int .i64 7))), (some (42, false))⟩]
      45 (.tmp 44)]
def r_syntax_Order_4 : List SOp :=
   [.op ⟨(some 6), (.mv (.av (.int .i64 0))), none⟩,
    .op ⟨(some 7), (.mv (.av (.bool false))), none⟩]
def r_syntax_Order_5 : List SOp :=
   [.op ⟨(some 46), (.mv (.tmp 0)), none⟩,
    .op ⟨(some 47), (.bin .eql (.tmp 46) (.av (.int .i64 4))), none⟩]
def r_syntax_Order_6 : List SOp :=
   [.op ⟨(some 49), (.mv (.tmp 8)), none⟩,
    .op ⟨(some 50), (.call 31 [(.tmp 49)]), none⟩,
    .op ⟨(some 48), (.mv (.tmp 50)), none⟩,
    .op ⟨(some 51), (.extract (.tmp 48) 0), none⟩,
    .op ⟨(some 52), (.extract (.tmp 48) 1), none⟩,
    .op ⟨(some 12), (.mv (.tmp 51)), none⟩,
    .op ⟨(some 13), (.mv (.tmp 52)), none⟩]
def r_syntax_Order_7 : List SOp :=
   [.op ⟨(some 54), (.mv (.tmp 10)), none⟩,
    .op ⟨(some 55), (.call 31 [(.tmp 54)]), none⟩,
    .op ⟨(some 53), (.mv (.tmp 55)), none⟩,
    .op ⟨(some 56), (.extract (.tmp 53) 0), none⟩,
    .op ⟨(some 57), (.extract (.tmp 53) 1), none⟩,
    .op ⟨(some 14), (.mv (.tmp 56)), none⟩,
    .op ⟨(some 15), (.mv (.tmp 57)), none⟩]
def r_syntax_Order_8 : List SOp :=
   [.op ⟨(some 58), (.mv (.tmp 12)), none⟩,
    .op ⟨(some 59), (.mv (.tmp 14)), none⟩,
    .op ⟨(some 60), (.call 34 [(.tmp 58), (.tmp 59)]), none⟩,
    .op ⟨(some 6), (.mv (.tmp 60)), none⟩,
    .op ⟨(some 7), (.mv (.av (.bool true))), none⟩]
def r_syntax_Order_9 : List SOp :=
   [.op ⟨(some 61), (.mv (.tmp 8)), none⟩,
    .op ⟨(some 62), (.mv (.tmp 10)), none⟩,
    .op ⟨(some 63), (.call 35 [(.tmp 61), (.tmp 62)]), none⟩,
    .op ⟨(some 6), (.mv (.tmp 63)), none⟩,
    .op ⟨(some 7), (.mv (.av (.bool true))), none⟩]
def c_syntax_Order : LFun := ⟨64, (.seq (.sreg r_syntax_Order_0 [])
  (.seq (.sreg r_syntax_Order_1 [true, true, false, false, false, false, false, false])
  (.seq (.sreg r_syntax_Order_2 [true, true, false, false, false, false, false, false])
  (.seq (.seq (.sreg r_syntax_Order_3 [true, false, false, false, false, false, false, false, false, false])
  (.cond (.tmp 45) (.seq (.sreg r_syntax_Order_4 [])
  .ret)
  .skip))
  (.seq (.seq (.sreg r_syntax_Order_5 [true, false])
  (.cond (.tmp 47) (.seq (.sreg r_syntax_Order_6 [false, true, false, false, false, false, false])
  (.seq (.sreg r_syntax_Order_7 [false, true, false, false, false, false, false])
  (.seq (.sreg r_syntax_Order_8 [true, true, false, false, false])
  .ret)))
  .skip))
  (.seq (.sreg r_syntax_Order_9 [true, true, false, false, false])
  .ret)))))), [(.tmp 6), (.tmp 7)]⟩
attribute [push_cast] r_syntax_Order_0 r_syntax_Order_1 r_syntax_Order_2 r_syntax_Order_3 r_syntax_Order_4 r_syntax_Order_5 r_syntax_Order_6 r_syntax_Order_7 r_syntax_Order_8 r_syntax_Order_9
theorem c_syntax_Order_eq : lowF Tryz.prog (fun _ _ => 1) 9 = some c_syntax_Order.raw := by kernel_rfl

/-! castellan/castellanlaw12.SyntaxNumbers -/
def r_law12_SyntaxNumbers_0 : List SOp :=
   [.op ⟨(some 4), (.mv (.av (.bool false))), none⟩]
def r_law12_SyntaxNumbers_1 : List SOp :=
   [.op ⟨(some 15), (.mv (.tmp 0)), none⟩,
    .op ⟨(some 16), (.call 7 [(.tmp 15), (.av (.int .i64 10))]), none⟩,
    .op ⟨(some 17), (.mv (.tmp 1)), none⟩,
    .op ⟨(some 18), (.call 7 [(.tmp 17), (.av (.int .i64 10))]), none⟩,
    .op ⟨(some 5), (.mv (.tmp 16)), none⟩,
    .op ⟨(some 6), (.mv (.tmp 18)), none⟩]
def r_law12_SyntaxNumbers_2 : List SOp :=
   [.op ⟨(some 20), (.mv (.tmp 5)), none⟩,
    .op ⟨(some 21), (.call 8 [(.av (.int .i64 4)), (.tmp 20)]), none⟩,
    .op ⟨(some 19), (.mv (.tmp 21)), none⟩,
    .op ⟨(some 22), (.extract (.tmp 19) 0), none⟩,
    .op ⟨(some 23), (.extract (.tmp 19) 1), none⟩,
    .op ⟨(some 7), (.mv (.tmp 22)), none⟩,
    .op ⟨(some 8), (.mv (.tmp 23)), none⟩]
def r_law12_SyntaxNumbers_3 : List SOp :=
   [.op ⟨(some 25), (.mv (.tmp 5)), none⟩,
    .op ⟨(some 26), (.mv (.tmp 6)), none⟩,
    .op ⟨(some 27), (.call 9 [(.av (.int .i64 4)), (.tmp 25), (.tmp 26)]), none⟩,
    .op ⟨(some 24), (.mv (.tmp 27)), none⟩,
    .op ⟨(some 28), (.extract (.tmp 24) 0), none⟩,
    .op ⟨(some 29), (.extract (.tmp 24) 1), none⟩,
    .op ⟨(some 9), (.mv (.tmp 28)), none⟩,
    .op ⟨(some 10), (.mv (.tmp 29)), none⟩]
def r_law12_SyntaxNumbers_4 : List SOp :=
   [.op ⟨(some 31), (.mv (.tmp 5)), none⟩,
    .op ⟨(some 32), (.bin .add (.av (.str [48])) (.tmp 31)), none⟩,
    .op ⟨(some 33), (.call 8 [(.av (.int .i64 4)), (.tmp 32)]), none⟩,
    .op ⟨(some 30), (.mv (.tmp 33)), none⟩,
    .op ⟨(some 34), (.extract (.tmp 30) 0), none⟩,
    .op ⟨(some 35), (.extract (.tmp 30) 1), none⟩,
    .op ⟨(some 11), (.mv (.tmp 34)), none⟩,
    .op ⟨(some 12), (.mv (.tmp 35)), none⟩]
def r_law12_SyntaxNumbers_5 : List SOp :=
   [.op ⟨(some 37), (.mv (.tmp 5)), none⟩,
    .op ⟨(some 38), (.bin .add (.av (.str [43])) (.tmp 37)), none⟩,
    .op ⟨(some 39), (.call 8 [(.av (.int .i64 4)), (.tmp 38)]), none⟩,
    .op ⟨(some 36), (.mv (.tmp 39)), none⟩,
    .op ⟨(some 40), (.extract (.tmp 36) 0), none⟩,
    .op ⟨(some 41), (.extract (.tmp 36) 1), none⟩,
    .op ⟨(some 13), (.mv (.tmp 40)), none⟩,
    .op ⟨(some 14), (.mv (.tmp 41)), none⟩]
def r_law12_SyntaxNumbers_6 : List SOp :=
   [.op ⟨(some 42), (.call 10 []), none⟩,
    .op ⟨(some 43), (.mv (.tmp 42)), none⟩,
    .grp none 43 true
      [.op ⟨(some 44), (.mv (.tmp 7)), (some (43, true))⟩,
      .op ⟨(some 45), (.mv (.tmp 5)), (some (43, true))⟩,
      .op ⟨(some 46), (.bin .eql (.tmp 44) (.tmp 45)), (some (43, true))⟩]
      47 (.tmp 46),
    .op ⟨(some 48), (.mv (.tmp 47)), none⟩,
    .grp none 48 true
      [.op ⟨(some 49), (.mv (.tmp 8)), (some (48, true))⟩]
      50 (.tmp 49),
    .op ⟨(some 51), (.mv (.tmp 50)), none⟩,
    .grp none 51 true
      [.op ⟨(some 52), (.mv (.tmp 10)), (some (51, true))⟩]
      53 (.tmp 52),
    .op ⟨(some 54), (.mv (.tmp 53)), none⟩,
    .grp none 54 true
      [.op ⟨(some 55), (.mv (.tmp 9)), (some (54, true))⟩,
      .op ⟨(some 56), (.bin .lss (.tmp 55) (.av (.int .i64 0))), (some (54, true))⟩,
      .op ⟨(some 57), (.mv (.tmp 0)), (some (54, true))⟩,
      .op ⟨(some 58), (.mv (.tmp 1)), (some (54, true))⟩,
      .op ⟨(some 59), (.bin .lss (.tmp 57) (.tmp 58)), (some (54, true))⟩,
      .op ⟨(some 60), (.eqk false .bool (.tmp 56) (.tmp 59)), (some (54, true))⟩]
      61 (.tmp 60),
    .op ⟨(some 62), (.mv (.tmp 61)), none⟩,
    .grp none 62 true
      [.op ⟨(some 63), (.mv (.tmp 9)), (some (62, true))⟩,
      .op ⟨(some 64), (.bin .eql (.tmp 63) (.av (.int .i64 0))), (some (62, true))⟩,
      .op ⟨(some 65), (.mv (.tmp 0)), (some (62, true))⟩,
      .op ⟨(some 66), (.mv (.tmp 1)), (some (62, true))⟩,
      .op ⟨(some 67), (.bin .eql (.tmp 65) (.tmp 66)), (some (62, true))⟩,
      .op ⟨(some 68), (.eqk false .bool (.tmp 64) (.tmp 67)), (some (62, true))⟩]
      69 (.tmp 68),
    .op ⟨(some 70), (.mv (.tmp 69)), none⟩,
    .grp none 70 true
      [.op ⟨(some 71), (.mv (.tmp 12)), (some (70, true))⟩,
      .op ⟨(some 72), (.un .not (.tmp 71)), (some (70, true))⟩]
      73 (.tmp 72),
    .op ⟨(some 74), (.mv (.tmp 73)), none⟩,
    .grp none 74 true
      [.op ⟨(some 75), (.mv (.tmp 14)), (some (74, true))⟩,
      .op ⟨(some 76), (.un .not (.tmp 75)), (some (74, true))⟩]
      77 (.tmp 76),
    .op ⟨(some 4), (.mv (.tmp 77)), none⟩]
def c_law12_SyntaxNumbers : LFun := ⟨78, (.seq (.sreg r_law12_SyntaxNumbers_0 [])
  (.seq (.sreg r_law12_SyntaxNumbers_1 [true, true, false, false, false, false])
  (.seq (.sreg r_law12_SyntaxNumbers_2 [true, true, false, false, false, false, false])
  (.seq (.sreg r_law12_SyntaxNumbers_3 [true, true, false, false, false, false, false, false])
  (.seq (.sreg r_law12_SyntaxNumbers_4 [true, false, false, false, false, false, false, false])
  (.seq (.sreg r_law12_SyntaxNumbers_5 [true, false, false, false, false, false, false, false])
  (.seq (.sreg r_law12_SyntaxNumbers_6 [true, false, false, false, false, false, false, false, false, false, false, false, false, false, false, false])
  .ret))))))), [(.tmp 4)]⟩
attribute [push_cast] r_law12_SyntaxNumbers_0 r_law12_SyntaxNumbers_1 r_law12_SyntaxNumbers_2 r_law12_SyntaxNumbers_3 r_law12_SyntaxNumbers_4 r_law12_SyntaxNumbers_5 r_law12_SyntaxNumbers_6
theorem c_law12_SyntaxNumbers_eq : lowF Tryz.prog (fun _ _ => 1) 3 = some c_law12_SyntaxNumbers.raw := by kernel_rfl

/-! cmp.Compare[int64] -/
def r_cmp_Compare_int64_0 : List SOp :=
   [.op ⟨(some 4), (.mv (.av (.int .i64 0))), none⟩]
def r_cmp_Compare_int64_1 : List SOp :=
   [.op ⟨(some 7), (.mv (.tmp 0)), none⟩,
    .op ⟨(some 8), (.call 71 [(.tmp 7)]), none⟩,
    .op ⟨(some 5), (.mv (.tmp 8)), none⟩]
def r_cmp_Compare_int64_2 : List SOp :=
   [.op ⟨(some 9), (.mv (.tmp 1)), none⟩,
    .op ⟨(some 10), (.call 71 [(.tmp 9)]), none⟩,
    .op ⟨(some 6), (.mv (.tmp 10)), none⟩]
def r_cmp_Compare_int64_3 : List SOp :=
   [.op ⟨(some 11), (.mv (.tmp 5)), none⟩]
def r_cmp_Compare_int64_4 : List SOp :=
   [.op ⟨(some 12), (.mv (.tmp 6)), none⟩]
def r_cmp_Compare_int64_5 : List SOp :=
   [.op ⟨(some 4), (.mv (.av (.int .i64 0))), none⟩]
def r_cmp_Compare_int64_6 : List SOp :=
   [.op ⟨(some 4), (.mv (.av (.int .i64 (-1)))), none⟩]
def r_cmp_Compare_int64_7 : List SOp :=
   [.op ⟨(some 13), (.mv (.tmp 6)), none⟩]
def r_cmp_Compare_int64_8 : List SOp :=
   [.op ⟨(some 4), (.mv (.av (.int .i64 1))), none⟩]
def r_cmp_Compare_int64_9 : List SOp :=
   [.op ⟨(some 14), (.mv (.tmp 0)), none⟩,
    .op ⟨(some 15), (.mv (.tmp 1)), none⟩,
    .op ⟨(some 16), (.bin .lss (.tmp 14) (.tmp 15)), none⟩]
def r_cmp_Compare_int64_10 : List SOp :=
   [.op ⟨(some 4), (.mv (.av (.int .i64 (-1)))), none⟩]
def r_cmp_Compare_int64_11 : List SOp :=
   [.op ⟨(some 17), (.mv (.tmp 0)), none⟩,
    .op ⟨(some 18), (.mv (.tmp 1)), none⟩,
    .op ⟨(some 19), (.bin .gtr (.tmp 17) (.tmp 18)), none⟩]
def r_cmp_Compare_int64_12 : List SOp :=
   [.op ⟨(some 4), (.mv (.av (.int .i64 1))), none⟩]
def r_cmp_Compare_int64_13 : List SOp :=
   [.op ⟨(some 4), (.mv (.av (.int .i64 0))), none⟩]
def c_cmp_Compare_int64 : LFun := ⟨20, (.seq (.sreg r_cmp_Compare_int64_0 [])
  (.seq (.sreg r_cmp_Compare_int64_1 [true, false, false])
  (.seq (.sreg r_cmp_Compare_int64_2 [true, false, false])
  (.seq (.seq (.sreg r_cmp_Compare_int64_3 [])
  (.cond (.tmp 11) (.seq (.seq (.sreg r_cmp_Compare_int64_4 [])
  (.cond (.tmp 12) (.seq (.sreg r_cmp_Compare_int64_5 [])
  .ret)
  .skip))
  (.seq (.sreg r_cmp_Compare_int64_6 [])
  .ret))
  .skip))
  (.seq (.seq (.sreg r_cmp_Compare_int64_7 [])
  (.cond (.tmp 13) (.seq (.sreg r_cmp_Compare_int64_8 [])
  .ret)
  .skip))
  (.seq (.seq (.sreg r_cmp_Compare_int64_9 [true, false, false])
  (.cond (.tmp 16) (.seq (.sreg r_cmp_Compare_int64_10 [])
  .ret)
  .skip))
  (.seq (.seq (.sreg r_cmp_Compare_int64_11 [true, false, false])
  (.cond (.tmp 19) (.seq (.sreg r_cmp_Compare_int64_12 [])
  .ret)
  .skip))
  (.seq (.sreg r_cmp_Compare_int64_13 [])
  .ret)))))))), [(.tmp 4)]⟩
attribute [push_cast] r_cmp_Compare_int64_0 r_cmp_Compare_int64_1 r_cmp_Compare_int64_2 r_cmp_Compare_int64_3 r_cmp_Compare_int64_4 r_cmp_Compare_int64_5 r_cmp_Compare_int64_6 r_cmp_Compare_int64_7 r_cmp_Compare_int64_8 r_cmp_Compare_int64_9 r_cmp_Compare_int64_10 r_cmp_Compare_int64_11 r_cmp_Compare_int64_12 r_cmp_Compare_int64_13
theorem c_cmp_Compare_int64_eq : lowF Tryz.prog (fun _ _ => 1) 34 = some c_cmp_Compare_int64.raw := by kernel_rfl

/-! cmp.isNaN[int64] -/
def r_cmp_isNaN_int64_0 : List SOp :=
   [.op ⟨(some 2), (.mv (.av (.bool false))), none⟩]
def r_cmp_isNaN_int64_1 : List SOp :=
   [.op ⟨(some 3), (.mv (.tmp 0)), none⟩,
    .op ⟨(some 4), (.mv (.tmp 0)), none⟩,
    .op ⟨(some 5), (.bin .neq (.tmp 3) (.tmp 4)), none⟩,
    .op ⟨(some 2), (.mv (.tmp 5)), none⟩]
def c_cmp_isNaN_int64 : LFun := ⟨6, (.seq (.sreg r_cmp_isNaN_int64_0 [])
  (.seq (.sreg r_cmp_isNaN_int64_1 [true, false, false, false])
  .ret)), [(.tmp 2)]⟩
attribute [push_cast] r_cmp_isNaN_int64_0 r_cmp_isNaN_int64_1
theorem c_cmp_isNaN_int64_eq : lowF Tryz.prog (fun _ _ => 1) 71 = some c_cmp_isNaN_int64.raw := by kernel_rfl

end Go.Proofs.YtpednpndahgleaaGreatDoor.Av
