/- Bodies of functions, lowered: printed by a program (wip/tools/lowx.py); each is held against the program by the kernel. -/
import Derived.Test.YtpednpndahgleaaGreatDoorExE
import Derived.Test.YtpednpndahgleaaGreatDoorRows
import Derived.KernelRfl
set_option maxRecDepth 100000
set_option linter.unusedSimpArgs false
set_option linter.unusedVariables false
namespace Go.Proofs.YtpednpndahgleaaGreatDoor.Av
open Go

/-! castellan/castellanlaw12.awake -/
def r_f10_0 : List SOp :=
   [.op ⟨(some 0), (.mv (.av (.bool false))), none⟩]
def r_f10_1 : List SOp :=
   [.op ⟨(some 10), (.call 8 [(.av (.int .i64 1)), (.av (.str [32, 65, 32, 32, 98]))]), none⟩,
    .op ⟨(some 9), (.mv (.tmp 10)), none⟩,
    .op ⟨(some 11), (.extract (.tmp 9) 0), none⟩,
    .op ⟨(some 12), (.extract (.tmp 9) 1), none⟩,
    .op ⟨(some 1), (.mv (.tmp 11)), none⟩,
    .op ⟨(some 2), (.mv (.tmp 12)), none⟩]
def r_f10_2 : List SOp :=
   [.op ⟨(some 14), (.call 9 [(.av (.int .i64 4)), (.av (.str [49, 48])), (.av (.str [57]))]), none⟩,
    .op ⟨(some 13), (.mv (.tmp 14)), none⟩,
    .op ⟨(some 15), (.extract (.tmp 13) 0), none⟩,
    .op ⟨(some 16), (.extract (.tmp 13) 1), none⟩,
    .op ⟨(some 3), (.mv (.tmp 15)), none⟩,
    .op ⟨(some 4), (.mv (.tmp 16)), none⟩]
def r_f10_3 : List SOp :=
   [.op ⟨(some 18), (.call 9 [(.av (.int .i64 1)), (.av (.str [49, 48])), (.av (.str [57]))]), none⟩,
    .op ⟨(some 17), (.mv (.tmp 18)), none⟩,
    .op ⟨(some 19), (.extract (.tmp 17) 0), none⟩,
    .op ⟨(some 20), (.extract (.tmp 17) 1), none⟩,
    .op ⟨(some 5), (.mv (.tmp 19)), none⟩,
    .op ⟨(some 6), (.mv (.tmp 20)), none⟩]
def r_f10_4 : List SOp :=
   [.op ⟨(some 22), (.build [(.int .i64 0), (.str [])] [(0, 1, (.av (.int .i64 0))), (1, 1, (.av (.str [65])))]), none⟩,
    .op ⟨(some 23), (.build [(.int .i64 0), (.str [])] [(0, 1, (.av (.int .i64 2))), (1, 1, (.av (.str [66])))]), none⟩,
    .op ⟨(some 24), (.bslice false 2 2 [(.int .i64 0), (.str []), (.int .i64 0), (.str [])] [(0, 2, (.tmp 22)), (2, 2, (.tmp 23))]), none⟩,
    .op ⟨(some 25), (.call 36 [(.av (.int .i64 1)), (.av (.str [65, 98, 99, 97, 98])), (.tmp 24)]), none⟩,
    .op ⟨(some 21), (.mv (.tmp 25)), none⟩,
    .op ⟨(some 26), (.extract (.tmp 21) 0), none⟩,
    .op ⟨(some 27), (.extract (.tmp 21) 1), none⟩,
    .op ⟨(some 7), (.mv (.tmp 26)), none⟩,
    .op ⟨(some 8), (.mv (.tmp 27)), none⟩]
def r_f10_5 : List SOp :=
   [.op ⟨(some 28), (.mv (.tmp 1)), none⟩,
    .op ⟨(some 29), (.bin .eql (.tmp 28) (.av (.str [97, 32, 98]))), none⟩,
    .op ⟨(some 30), (.mv (.tmp 29)), none⟩,
    .grp none 30 true
      [.op ⟨(some 31), (.mv (.tmp 2)), (some (30, true))⟩]
      32 (.tmp 31),
    .op ⟨(some 33), (.mv (.tmp 32)), none⟩,
    .grp none 33 true
      [.op ⟨(some 34), (.mv (.tmp 3)), (some (33, true))⟩,
      .op ⟨(some 35), (.bin .eql (.tmp 34) (.av (.int .i64 1))), (some (33, true))⟩]
      36 (.tmp 35),
    .op ⟨(some 37), (.mv (.tmp 36)), none⟩,
    .grp none 37 true
      [.op ⟨(some 38), (.mv (.tmp 4)), (some (37, true))⟩]
      39 (.tmp 38),
    .op ⟨(some 40), (.mv (.tmp 39)), none⟩,
    .grp none 40 true
      [.op ⟨(some 41), (.mv (.tmp 5)), (some (40, true))⟩,
      .op ⟨(some 42), (.bin .eql (.tmp 41) (.av (.int .i64 (-1)))), (some (40, true))⟩]
      43 (.tmp 42),
    .op ⟨(some 44), (.mv (.tmp 43)), none⟩,
    .grp none 44 true
      [.op ⟨(some 45), (.mv (.tmp 7)), (some (44, true))⟩]
      46 (.tmp 45),
    .op ⟨(some 47), (.mv (.tmp 46)), none⟩,
    .grp none 47 true
      [.op ⟨(some 48), (.mv (.tmp 8)), (some (47, true))⟩]
      49 (.tmp 48),
    .op ⟨(some 0), (.mv (.tmp 49)), none⟩]
def c_f10 : LFun := ⟨50, (.seq (.sreg r_f10_0 [])
  (.seq (.sreg r_f10_1 [true, true, false, false, false, false])
  (.seq (.sreg r_f10_2 [true, true, false, false, false, false])
  (.seq (.sreg r_f10_3 [false, true, false, false, false, false])
  (.seq (.sreg r_f10_4 [true, true, false, false, false, false, false, false, false])
  (.seq (.sreg r_f10_5 [true, false, false, false, false, false, false, false, false, false, false, false, false, false, false])
  .ret)))))), [(.tmp 0)]⟩
def o_f10 : Nat → Nat → Nat := fun _ _ => 1
theorem c_f10_eq : lowF Tryz.prog o_f10 10 = some c_f10.raw := by kernel_rfl
theorem c_f10_ok : c_f10.code.okc = true := by kernel_rfl
/-! castellan/syntax.Norm -/
def r_f8_0 : List SOp :=
   [.op ⟨(some 4), (.mv (.av (.str []))), none⟩,
    .op ⟨(some 5), (.mv (.av (.bool false))), none⟩]
def r_f8_1 : List SOp :=
   [.op ⟨(some 10), (.mv (.tmp 1)), none⟩,
    .op ⟨(some 11), (.len true (.tmp 10)), none⟩,
    .op ⟨(some 12), (.bin .gtr (.tmp 11) (.av (.int .i64 4096))), none⟩]
def r_f8_2 : List SOp :=
   [.op ⟨(some 4), (.mv (.av (.str []))), none⟩,
    .op ⟨(some 5), (.mv (.av (.bool false))), none⟩]
def r_f8_3 : List SOp :=
   [.op ⟨(some 13), (.mv (.tmp 1)), none⟩,
    .op ⟨(some 6), (.mv (.tmp 13)), none⟩,
    .op ⟨(some 7), (.mv (.av (.bool false))), none⟩]
def r_f8_4 : List SOp :=
   [.op ⟨(some 14), (.mv (.tmp 0)), none⟩]
def r_f8_5 : List SOp :=
   [.op ⟨(some 16), (.bin .eql (.tmp 14) (.av (.int .i64 1))), none⟩,
    .op ⟨(some 15), (.mv (.tmp 16)), none⟩]
def r_f8_6 : List SOp :=
   [.op ⟨(some 17), (.mv (.tmp 1)), none⟩,
    .op ⟨(some 18), (.call 27 [(.tmp 17)]), none⟩,
    .op ⟨(some 19), (.mv (.tmp 1)), none⟩,
    .op ⟨(some 20), (.bin .neq (.tmp 19) (.av (.str []))), none⟩,
    .op ⟨(some 21), (.mv (.tmp 20)), none⟩,
    .op ⟨(some 22), (.mv (.tmp 1)), (some (21, true))⟩,
    .op ⟨(some 23), (.call 28 [(.tmp 22)]), (some (21, true))⟩,
    .op ⟨(some 24), (.pick (.tmp 21) (.tmp 23) (.av (.bool false))), none⟩,
    .op ⟨(some 6), (.mv (.tmp 18)), none⟩,
    .op ⟨(some 7), (.mv (.tmp 24)), none⟩]
def r_f8_7 : List SOp :=
   [.op ⟨(some 26), (.bin .eql (.tmp 14) (.av (.int .i64 2))), none⟩,
    .op ⟨(some 25), (.mv (.tmp 26)), none⟩]
def r_f8_8 : List SOp :=
   [.op ⟨(some 27), (.mv (.tmp 1)), none⟩,
    .op ⟨(some 28), (.bin .neq (.tmp 27) (.av (.str []))), none⟩,
    .op ⟨(some 29), (.mv (.tmp 28)), none⟩,
    .op ⟨(some 30), (.mv (.tmp 1)), (some (29, true))⟩,
    .op ⟨(some 31), (.call 28 [(.tmp 30)]), (some (29, true))⟩,
    .op ⟨(some 32), (.pick (.tmp 29) (.tmp 31) (.av (.bool false))), none⟩,
    .op ⟨(some 7), (.mv (.tmp 32)), none⟩]
def r_f8_9 : List SOp :=
   [.op ⟨(some 34), (.bin .eql (.tmp 14) (.av (.int .i64 3))), none⟩,
    .op ⟨(some 33), (.mv (.tmp 34)), none⟩]
def r_f8_10 : List SOp :=
   [.op ⟨(some 35), (.mv (.tmp 1)), none⟩,
    .op ⟨(some 36), (.call 27 [(.tmp 35)]), none⟩,
    .op ⟨(some 37), (.mv (.tmp 1)), none⟩,
    .op ⟨(some 38), (.call 29 [(.tmp 37), (.av (.func 30 []))]), none⟩,
    .op ⟨(some 39), (.bin .lss (.tmp 38) (.av (.int .i64 0))), none⟩,
    .op ⟨(some 6), (.mv (.tmp 36)), none⟩,
    .op ⟨(some 7), (.mv (.tmp 39)), none⟩]
def r_f8_11 : List SOp :=
   [.op ⟨(some 41), (.bin .eql (.tmp 14) (.av (.int .i64 4))), none⟩,
    .op ⟨(some 40), (.mv (.tmp 41)), none⟩]
def r_f8_12 : List SOp :=
   [.op ⟨(some 43), (.mv (.tmp 1)), none⟩,
    .op ⟨(some 44), (.call 31 [(.tmp 43)]), none⟩,
    .op ⟨(some 42), (.mv (.tmp 44)), none⟩,
    .op ⟨(some 45), (.extract (.tmp 42) 0), none⟩,
    .op ⟨(some 46), (.extract (.tmp 42) 1), none⟩,
    .op ⟨(some 7), (.mv (.tmp 46)), none⟩]
def r_f8_13 : List SOp :=
   [.op ⟨(some 48), (.bin .eql (.tmp 14) (.av (.int .i64 5))), none⟩,
    .op ⟨(some 47), (.mv (.tmp 48)), none⟩]
def r_f8_14 : List SOp :=
   [.op ⟨(some 49), (.mv (.tmp 1)), none⟩,
    .op ⟨(some 50), (.bin .eql (.tmp 49) (.av (.str [84, 82, 85, 69]))), none⟩,
    .op ⟨(some 51), (.mv (.tmp 50)), none⟩,
    .grp none 51 false
      [.op ⟨(some 52), (.mv (.tmp 1)), (some (51, false))⟩,
      .op ⟨(some 53), (.bin .eql (.tmp 52) (.av (.str [70, 65, 76, 83, 69]))), (some (51, false))⟩]
      54 (.tmp 53),
    .op ⟨(some 7), (.mv (.tmp 54)), none⟩]
def r_f8_15 : List SOp :=
   [.op ⟨(some 56), (.bin .eql (.tmp 14) (.av (.int .i64 6))), none⟩,
    .op ⟨(some 55), (.mv (.tmp 56)), none⟩]
def r_f8_16 : List SOp :=
   [.op ⟨(some 58), (.mv (.tmp 1)), none⟩,
    .op ⟨(some 59), (.call 32 [(.tmp 58)]), none⟩,
    .op ⟨(some 57), (.mv (.tmp 59)), none⟩,
    .op ⟨(some 60), (.extract (.tmp 57) 0), none⟩,
    .op ⟨(some 61), (.extract (.tmp 57) 1), none⟩,
    .op ⟨(some 8), (.mv (.tmp 60)), none⟩,
    .op ⟨(some 9), (.mv (.tmp 61)), none⟩]
def r_f8_17 : List SOp :=
   [.op ⟨(some 62), (.mv (.tmp 8)), none⟩,
    .op ⟨(some 63), (.mv (.tmp 9)), none⟩,
    .op ⟨(some 64), (.bin .eql (.tmp 63) (.av (.int .i64 0))), none⟩,
    .op ⟨(some 6), (.mv (.tmp 62)), none⟩,
    .op ⟨(some 7), (.mv (.tmp 64)), none⟩]
def r_f8_18 : List SOp :=
   [.op ⟨(some 66), (.bin .eql (.tmp 14) (.av (.int .i64 7))), none⟩,
    .op ⟨(some 65), (.mv (.tmp 66)), none⟩]
def r_f8_19 : List SOp :=
   [.op ⟨(some 7), (.mv (.av (.bool true))), none⟩]
def r_f8_20 : List SOp :=
   [.op ⟨(some 68), (.bin .eql (.tmp 14) (.av (.int .i64 8))), none⟩,
    .op ⟨(some 67), (.mv (.tmp 68)), none⟩]
def r_f8_21 : List SOp :=
   [.op ⟨(some 69), (.mv (.tmp 1)), none⟩,
    .op ⟨(some 70), (.call 33 [(.tmp 69)]), none⟩,
    .op ⟨(some 7), (.mv (.tmp 70)), none⟩]
def r_f8_22 : List SOp :=
   [.op ⟨(some 71), (.mv (.tmp 7)), none⟩,
    .op ⟨(some 72), (.un .not (.tmp 71)), none⟩]
def r_f8_23 : List SOp :=
   [.op ⟨(some 4), (.mv (.av (.str []))), none⟩,
    .op ⟨(some 5), (.mv (.av (.bool false))), none⟩]
def r_f8_24 : List SOp :=
   [.op ⟨(some 73), (.mv (.tmp 6)), none⟩,
    .op ⟨(some 4), (.mv (.tmp 73)), none⟩,
    .op ⟨(some 5), (.mv (.av (.bool true))), none⟩]
def c_f8 : LFun := ⟨74, (.seq (.sreg r_f8_0 [])
  (.seq (.seq (.sreg r_f8_1 [true, false, false])
  (.cond (.tmp 12) (.seq (.sreg r_f8_2 [])
  .ret)
  .skip))
  (.seq (.sreg r_f8_3 [true, true, false])
  (.seq (.seq (.sreg r_f8_4 [])
  (.block 0 (.seq (.sreg r_f8_5 [true, false])
  (.cond (.tmp 15) (.sreg r_f8_6 [true, true, false, false, false, false, false, false, false, false])
  (.seq (.sreg r_f8_7 [true, false])
  (.cond (.tmp 25) (.sreg r_f8_8 [true, false, false, false, false, false, false])
  (.seq (.sreg r_f8_9 [true, false])
  (.cond (.tmp 33) (.sreg r_f8_10 [true, true, false, false, false, false, false])
  (.seq (.sreg r_f8_11 [true, false])
  (.cond (.tmp 40) (.sreg r_f8_12 [true, false, false, false, false, false])
  (.seq (.sreg r_f8_13 [true, false])
  (.cond (.tmp 47) (.sreg r_f8_14 [true, false, false, false, false])
  (.seq (.sreg r_f8_15 [true, false])
  (.cond (.tmp 55) (.seq (.sreg r_f8_16 [true, true, false, false, false, false, false])
  (.sreg r_f8_17 [true, true, false, false, false]))
  (.seq (.sreg r_f8_18 [true, false])
  (.cond (.tmp 65) (.sreg r_f8_19 [])
  (.seq (.sreg r_f8_20 [true, false])
  (.cond (.tmp 67) (.sreg r_f8_21 [true, false, false])
  .skip))))))))))))))))))
  (.seq (.seq (.sreg r_f8_22 [true, false])
  (.cond (.tmp 72) (.seq (.sreg r_f8_23 [])
  .ret)
  .skip))
  (.seq (.sreg r_f8_24 [true, true, false])
  .ret)))))), [(.tmp 4), (.tmp 5)]⟩
def o_f8 : Nat → Nat → Nat := fun _ _ => 1
theorem c_f8_eq : lowF Tryz.prog o_f8 8 = some c_f8.raw := by kernel_rfl
theorem c_f8_ok : c_f8.code.okc = true := by kernel_rfl
/-! castellan/syntax.Order -/
def r_f9_0 : List SOp :=
   [.op ⟨(some 6), (.mv (.av (.int .i64 0))), none⟩,
    .op ⟨(some 7), (.mv (.av (.bool false))), none⟩]
def r_f9_1 : List SOp :=
   [.op ⟨(some 17), (.mv (.tmp 0)), none⟩,
    .op ⟨(some 18), (.mv (.tmp 1)), none⟩,
    .op ⟨(some 19), (.call 8 [(.tmp 17), (.tmp 18)]), none⟩,
    .op ⟨(some 16), (.mv (.tmp 19)), none⟩,
    .op ⟨(some 20), (.extract (.tmp 16) 0), none⟩,
    .op ⟨(some 21), (.extract (.tmp 16) 1), none⟩,
    .op ⟨(some 8), (.mv (.tmp 20)), none⟩,
    .op ⟨(some 9), (.mv (.tmp 21)), none⟩]
def r_f9_2 : List SOp :=
   [.op ⟨(some 23), (.mv (.tmp 0)), none⟩,
    .op ⟨(some 24), (.mv (.tmp 2)), none⟩,
    .op ⟨(some 25), (.call 8 [(.tmp 23), (.tmp 24)]), none⟩,
    .op ⟨(some 22), (.mv (.tmp 25)), none⟩,
    .op ⟨(some 26), (.extract (.tmp 22) 0), none⟩,
    .op ⟨(some 27), (.extract (.tmp 22) 1), none⟩,
    .op ⟨(some 10), (.mv (.tmp 26)), none⟩,
    .op ⟨(some 11), (.mv (.tmp 27)), none⟩]
def r_f9_3 : List SOp :=
   [.op ⟨(some 28), (.mv (.tmp 9)), none⟩,
    .op ⟨(some 29), (.un .not (.tmp 28)), none⟩,
    .op ⟨(some 30), (.mv (.tmp 29)), none⟩,
    .grp none 30 false
      [.op ⟨(some 31), (.mv (.tmp 11)), (some (30, false))⟩,
      .op ⟨(some 32), (.un .not (.tmp 31)), (some (30, false))⟩]
      33 (.tmp 32),
    .op ⟨(some 34), (.mv (.tmp 33)), none⟩,
    .grp none 34 false
      [.op ⟨(some 35), (.mv (.tmp 0)), (some (34, false))⟩,
      .op ⟨(some 36), (.bin .eql (.tmp 35) (.av (.int .i64 5))), (some (34, false))⟩]
      37 (.tmp 36),
    .op ⟨(some 38), (.mv (.tmp 37)), none⟩,
    .grp none 38 false
      [.op ⟨(some 39), (.mv (.tmp 0)), (some (38, false))⟩,
      .op ⟨(some 40), (.bin .eql (.tmp 39) (.av (.int .i64 6))), (some (38, false))⟩]
      41 (.tmp 40),
    .op ⟨(some 42), (.mv (.tmp 41)), none⟩,
    .grp none 42 false
      [.op ⟨(some 43), (.mv (.tmp 0)), (some (42, false))⟩,
      .op ⟨(some 44), (.bin .eql (.tmp 43) (.av (.int .i64 7))), (some (42, false))⟩]
      45 (.tmp 44)]
def r_f9_4 : List SOp :=
   [.op ⟨(some 6), (.mv (.av (.int .i64 0))), none⟩,
    .op ⟨(some 7), (.mv (.av (.bool false))), none⟩]
def r_f9_5 : List SOp :=
   [.op ⟨(some 46), (.mv (.tmp 0)), none⟩,
    .op ⟨(some 47), (.bin .eql (.tmp 46) (.av (.int .i64 4))), none⟩]
def r_f9_6 : List SOp :=
   [.op ⟨(some 49), (.mv (.tmp 8)), none⟩,
    .op ⟨(some 50), (.call 31 [(.tmp 49)]), none⟩,
    .op ⟨(some 48), (.mv (.tmp 50)), none⟩,
    .op ⟨(some 51), (.extract (.tmp 48) 0), none⟩,
    .op ⟨(some 52), (.extract (.tmp 48) 1), none⟩,
    .op ⟨(some 12), (.mv (.tmp 51)), none⟩,
    .op ⟨(some 13), (.mv (.tmp 52)), none⟩]
def r_f9_7 : List SOp :=
   [.op ⟨(some 54), (.mv (.tmp 10)), none⟩,
    .op ⟨(some 55), (.call 31 [(.tmp 54)]), none⟩,
    .op ⟨(some 53), (.mv (.tmp 55)), none⟩,
    .op ⟨(some 56), (.extract (.tmp 53) 0), none⟩,
    .op ⟨(some 57), (.extract (.tmp 53) 1), none⟩,
    .op ⟨(some 14), (.mv (.tmp 56)), none⟩,
    .op ⟨(some 15), (.mv (.tmp 57)), none⟩]
def r_f9_8 : List SOp :=
   [.op ⟨(some 58), (.mv (.tmp 12)), none⟩,
    .op ⟨(some 59), (.mv (.tmp 14)), none⟩,
    .op ⟨(some 60), (.call 34 [(.tmp 58), (.tmp 59)]), none⟩,
    .op ⟨(some 6), (.mv (.tmp 60)), none⟩,
    .op ⟨(some 7), (.mv (.av (.bool true))), none⟩]
def r_f9_9 : List SOp :=
   [.op ⟨(some 61), (.mv (.tmp 8)), none⟩,
    .op ⟨(some 62), (.mv (.tmp 10)), none⟩,
    .op ⟨(some 63), (.call 35 [(.tmp 61), (.tmp 62)]), none⟩,
    .op ⟨(some 6), (.mv (.tmp 63)), none⟩,
    .op ⟨(some 7), (.mv (.av (.bool true))), none⟩]
def c_f9 : LFun := ⟨64, (.seq (.sreg r_f9_0 [])
  (.seq (.sreg r_f9_1 [true, true, false, false, false, false, false, false])
  (.seq (.sreg r_f9_2 [true, true, false, false, false, false, false, false])
  (.seq (.seq (.sreg r_f9_3 [true, false, false, false, false, false, false, false, false, false])
  (.cond (.tmp 45) (.seq (.sreg r_f9_4 [])
  .ret)
  .skip))
  (.seq (.seq (.sreg r_f9_5 [true, false])
  (.cond (.tmp 47) (.seq (.sreg r_f9_6 [false, true, false, false, false, false, false])
  (.seq (.sreg r_f9_7 [false, true, false, false, false, false, false])
  (.seq (.sreg r_f9_8 [true, true, false, false, false])
  .ret)))
  .skip))
  (.seq (.sreg r_f9_9 [true, true, false, false, false])
  .ret)))))), [(.tmp 6), (.tmp 7)]⟩
def o_f9 : Nat → Nat → Nat := fun _ _ => 1
theorem c_f9_eq : lowF Tryz.prog o_f9 9 = some c_f9.raw := by kernel_rfl
theorem c_f9_ok : c_f9.code.okc = true := by kernel_rfl
/-! castellan/syntax.Like -/
def r_f36_0 : List SOp :=
   [.op ⟨(some 6), (.mv (.av (.bool false))), none⟩,
    .op ⟨(some 7), (.mv (.av (.bool false))), none⟩]
def r_f36_1 : List SOp :=
   [.op ⟨(some 15), (.mv (.tmp 0)), none⟩,
    .op ⟨(some 16), (.mv (.tmp 1)), none⟩,
    .op ⟨(some 17), (.call 8 [(.tmp 15), (.tmp 16)]), none⟩,
    .op ⟨(some 14), (.mv (.tmp 17)), none⟩,
    .op ⟨(some 18), (.extract (.tmp 14) 0), none⟩,
    .op ⟨(some 19), (.extract (.tmp 14) 1), none⟩,
    .op ⟨(some 8), (.mv (.tmp 18)), none⟩,
    .op ⟨(some 9), (.mv (.tmp 19)), none⟩]
def r_f36_2 : List SOp :=
   [.op ⟨(some 20), (.mv (.tmp 9)), none⟩,
    .op ⟨(some 21), (.un .not (.tmp 20)), none⟩,
    .op ⟨(some 22), (.mv (.tmp 21)), none⟩,
    .op ⟨(some 23), (.mv (.tmp 0)), (some (22, false))⟩,
    .op ⟨(some 24), (.bin .neq (.tmp 23) (.av (.int .i64 1))), (some (22, false))⟩,
    .op ⟨(some 25), (.mv (.tmp 24)), (some (22, false))⟩,
    .op ⟨(some 26), (.mv (.tmp 0)), (some (25, true))⟩,
    .op ⟨(some 27), (.bin .neq (.tmp 26) (.av (.int .i64 2))), (some (25, true))⟩,
    .op ⟨(some 28), (.pick (.tmp 25) (.tmp 27) (.av (.bool false))), (some (22, false))⟩,
    .op ⟨(some 29), (.mv (.tmp 28)), (some (22, false))⟩,
    .op ⟨(some 30), (.mv (.tmp 0)), (some (29, true))⟩,
    .op ⟨(some 31), (.bin .neq (.tmp 30) (.av (.int .i64 3))), (some (29, true))⟩,
    .op ⟨(some 32), (.pick (.tmp 29) (.tmp 31) (.av (.bool false))), (some (22, false))⟩,
    .op ⟨(some 33), (.pick (.tmp 22) (.av (.bool true)) (.tmp 32)), none⟩,
    .op ⟨(some 34), (.mv (.tmp 33)), none⟩,
    .op ⟨(some 35), (.mv (.tmp 2)), (some (34, false))⟩,
    .op ⟨(some 36), (.build [(.int .i64 0), (.str []), (.str []), (.sl [] 0 (some 0)), (.sl [] 0 (some 0))] [(0, 1, (.av (.int .i64 4))), (1, 1, (.av (.str [97]))), (3, 1, (.tmp 35))]), (some (34, false))⟩,
    .op ⟨(some 37), (.call 73 [(.tmp 36)]), (some (34, false))⟩,
    .op ⟨(some 38), (.bin .neq (.tmp 37) (.av (.int .i64 0))), (some (34, false))⟩,
    .op ⟨(some 39), (.pick (.tmp 34) (.av (.bool true)) (.tmp 38)), none⟩]
def r_f36_3 : List SOp :=
   [.op ⟨(some 6), (.mv (.av (.bool false))), none⟩,
    .op ⟨(some 7), (.mv (.av (.bool false))), none⟩]
def r_f36_4 : List SOp :=
   [.op ⟨(some 40), (.mv (.tmp 2)), none⟩,
    .op ⟨(some 41), (.len false (.tmp 40)), none⟩,
    .op ⟨(some 42), (.mv (.av (.int .i64 0))), none⟩]
def r_f36_5 : List SOp :=
   [.op ⟨(some 43), (.bin .lss (.tmp 42) (.tmp 41)), none⟩]
def r_f36_6 : List SOp :=
   [.op ⟨(some 44), (.iaddr 2 (.tmp 40) (.tmp 42)), none⟩,
    .op ⟨(some 45), (.load true 2 (.tmp 44)), none⟩,
    .op ⟨(some 11), (.alloc [(.int .i64 0), (.str [])]), none⟩,
    .op ⟨none, (.store 2 (.tmp 11) (.tmp 45)), none⟩]
def r_f36_7 : List SOp :=
   [.op ⟨(some 46), (.faddr 1 (.tmp 11)), none⟩,
    .op ⟨(some 47), (.load false 1 (.tmp 46)), none⟩,
    .op ⟨(some 12), (.mv (.tmp 47)), none⟩]
def r_f36_8 : List SOp :=
   [.op ⟨(some 48), (.mv (.tmp 0)), none⟩,
    .op ⟨(some 49), (.bin .neq (.tmp 48) (.av (.int .i64 2))), none⟩]
def r_f36_9 : List SOp :=
   [.op ⟨(some 50), (.mv (.tmp 12)), none⟩,
    .op ⟨(some 51), (.call 44 [(.tmp 50)]), none⟩,
    .op ⟨(some 12), (.mv (.tmp 51)), none⟩]
def r_f36_10 : List SOp :=
   [.op ⟨(some 52), (.mv (.tmp 8)), none⟩,
    .op ⟨(some 53), (.mv (.tmp 12)), none⟩,
    .op ⟨(some 54), (.call 74 [(.tmp 52), (.tmp 53)]), none⟩,
    .op ⟨(some 13), (.mv (.tmp 54)), none⟩]
def r_f36_11 : List SOp :=
   [.op ⟨(some 56), (.faddr 0 (.tmp 11)), none⟩,
    .op ⟨(some 57), (.load false 1 (.tmp 56)), none⟩,
    .op ⟨(some 58), (.bin .eql (.tmp 57) (.av (.int .i64 0))), none⟩,
    .op ⟨(some 59), (.mv (.tmp 58)), none⟩,
    .op ⟨(some 60), (.mv (.tmp 8)), (some (59, true))⟩,
    .op ⟨(some 61), (.mv (.tmp 12)), (some (59, true))⟩,
    .op ⟨(some 62), (.call 75 [(.tmp 60), (.tmp 61)]), (some (59, true))⟩,
    .op ⟨(some 63), (.un .not (.tmp 62)), (some (59, true))⟩,
    .op ⟨(some 64), (.pick (.tmp 59) (.tmp 63) (.av (.bool false))), none⟩,
    .op ⟨(some 55), (.mv (.tmp 64)), none⟩]
def r_f36_12 : List SOp :=
   [.op ⟨(some 65), (.faddr 0 (.tmp 11)), none⟩,
    .op ⟨(some 66), (.load false 1 (.tmp 65)), none⟩,
    .op ⟨(some 67), (.bin .eql (.tmp 66) (.av (.int .i64 2))), none⟩,
    .op ⟨(some 68), (.mv (.tmp 67)), none⟩,
    .op ⟨(some 69), (.mv (.tmp 8)), (some (68, true))⟩,
    .op ⟨(some 70), (.mv (.tmp 12)), (some (68, true))⟩,
    .op ⟨(some 71), (.call 76 [(.tmp 69), (.tmp 70)]), (some (68, true))⟩,
    .op ⟨(some 72), (.un .not (.tmp 71)), (some (68, true))⟩,
    .op ⟨(some 73), (.pick (.tmp 68) (.tmp 72) (.av (.bool false))), none⟩,
    .op ⟨(some 55), (.mv (.tmp 73)), none⟩]
def r_f36_13 : List SOp :=
   [.op ⟨(some 74), (.mv (.tmp 13)), none⟩,
    .op ⟨(some 75), (.bin .lss (.tmp 74) (.av (.int .i64 0))), none⟩,
    .op ⟨(some 55), (.mv (.tmp 75)), none⟩]
def r_f36_14 : List SOp :=
   [.op ⟨(some 6), (.mv (.av (.bool false))), none⟩,
    .op ⟨(some 7), (.mv (.av (.bool true))), none⟩]
def r_f36_15 : List SOp :=
   [.op ⟨(some 76), (.mv (.tmp 8)), none⟩,
    .op ⟨(some 77), (.mv (.tmp 13)), none⟩,
    .op ⟨(some 78), (.mv (.tmp 12)), none⟩,
    .op ⟨(some 79), (.len true (.tmp 78)), none⟩,
    .op ⟨(some 80), (.bin .add (.tmp 77) (.tmp 79)), none⟩,
    .op ⟨(some 81), (.slS (.tmp 76) (some (.tmp 80)) none), none⟩,
    .op ⟨(some 8), (.mv (.tmp 81)), none⟩]
def r_f36_16 : List SOp :=
   [.op ⟨(some 82), (.bin .add (.tmp 42) (.av (.int .i64 1))), none⟩,
    .op ⟨(some 42), (.mv (.tmp 82)), none⟩]
def r_f36_17 : List SOp :=
   [.op ⟨(some 6), (.mv (.av (.bool true))), none⟩,
    .op ⟨(some 7), (.mv (.av (.bool true))), none⟩]
def c_f36 : LFun := ⟨83, (.seq (.sreg r_f36_0 [])
  (.seq (.sreg r_f36_1 [true, true, false, false, false, false, false, false])
  (.seq (.seq (.sreg r_f36_2 [true, false, false, false, false, false, false, false, false, false, false, false, false, false, false, false, false, false, false, false])
  (.cond (.tmp 39) (.seq (.sreg r_f36_3 [])
  .ret)
  .skip))
  (.seq (.seq (.sreg r_f36_4 [])
  (.block 0 (.loop (.seq (.sreg r_f36_5 [])
  (.seq (.cond (.tmp 43) .skip
  (.exit 0))
  (.seq (.block 1 (.seq (.sreg r_f36_6 [true, false, false])
  (.seq (.sreg r_f36_7 [true, false, false])
  (.seq (.seq (.sreg r_f36_8 [true, false])
  (.cond (.tmp 49) (.sreg r_f36_9 [true, false, false])
  .skip))
  (.seq (.sreg r_f36_10 [true, false, false, false])
  (.seq (.block 2 (.seq (.seq (.sreg r_f36_11 [true, false, false, false, false, false, false, false, false, false])
  (.cond (.tmp 55) .skip
  (.seq (.sreg r_f36_12 [true, false, false, false, false, false, false, false, false, false])
  (.cond (.tmp 55) .skip
  (.sreg r_f36_13 [true, false, false])))))
  (.cond (.tmp 55) (.seq (.sreg r_f36_14 [])
  .ret)
  .skip)))
  (.sreg r_f36_15 [true, false, false, false, false, false, false])))))))
  (.sreg r_f36_16 [true, false])))))))
  (.seq (.sreg r_f36_17 [])
  .ret))))), [(.tmp 6), (.tmp 7)]⟩
def o_f36 : Nat → Nat → Nat := fun _ _ => 1
theorem c_f36_eq : lowF Tryz.prog o_f36 36 = some c_f36.raw := by kernel_rfl
theorem c_f36_ok : c_f36.code.okc = true := by kernel_rfl
/-! castellan/octet.Prep -/
def r_f27_0 : List SOp :=
   [.op ⟨(some 2), (.mv (.av (.str []))), none⟩]
def r_f27_1 : List SOp :=
   [.op ⟨(some 3), (.mv (.av (.sl [] 0 (some 0)))), none⟩]
def r_f27_2 : List SOp :=
   [.op ⟨(some 6), (.mv (.tmp 0)), none⟩,
    .op ⟨(some 7), (.call 44 [(.tmp 6)]), none⟩,
    .op ⟨(some 8), (.s2b (.tmp 7)), none⟩,
    .op ⟨(some 9), (.len false (.tmp 8)), none⟩,
    .op ⟨(some 10), (.mv (.av (.int .i64 0))), none⟩]
def r_f27_3 : List SOp :=
   [.op ⟨(some 11), (.bin .lss (.tmp 10) (.tmp 9)), none⟩]
def r_f27_4 : List SOp :=
   [.op ⟨(some 12), (.iaddr 1 (.tmp 8) (.tmp 10)), none⟩,
    .op ⟨(some 13), (.load false 1 (.tmp 12)), none⟩,
    .op ⟨(some 5), (.mv (.tmp 13)), none⟩]
def r_f27_5 : List SOp :=
   [.op ⟨(some 14), (.mv (.tmp 5)), none⟩,
    .op ⟨(some 15), (.bin .eql (.tmp 14) (.av (.int .u8 32))), none⟩,
    .op ⟨(some 16), (.mv (.tmp 15)), none⟩,
    .grp none 16 true
      [.op ⟨(some 17), (.mv (.tmp 3)), (some (16, true))⟩,
      .op ⟨(some 18), (.len false (.tmp 17)), (some (16, true))⟩,
      .op ⟨(some 19), (.bin .eql (.tmp 18) (.av (.int .i64 0))), (some (16, true))⟩,
      .op ⟨(some 20), (.mv (.tmp 19)), (some (16, true))⟩,
      .grp (some (16, true)) 20 false
        [.op ⟨(some 21), (.mv (.tmp 3)), (some (20, false))⟩,
        .op ⟨(some 22), (.mv (.tmp 3)), (some (20, false))⟩,
        .op ⟨(some 23), (.len false (.tmp 22)), (some (20, false))⟩,
        .op ⟨(some 24), (.bin .sub (.tmp 23) (.av (.int .i64 1))), (some (20, false))⟩,
        .op ⟨(some 25), (.iaddr 1 (.tmp 21) (.tmp 24)), (some (20, false))⟩,
        .op ⟨(some 26), (.load false 1 (.tmp 25)), (some (20, false))⟩,
        .op ⟨(some 27), (.bin .eql (.tmp 26) (.av (.int .u8 32))), (some (20, false))⟩]
        28 (.tmp 27)]
      29 (.tmp 28)]
def r_f27_6 : List SOp :=
   [.op ⟨(some 30), (.mv (.tmp 3)), none⟩,
    .op ⟨(some 31), (.mv (.tmp 5)), none⟩,
    .op ⟨(some 32), (.bslice false 1 1 [(.int .u8 0)] [(0, 1, (.tmp 31))]), none⟩,
    .op ⟨(some 33), (.app 1 1 1 [(.int .u8 0)] (.tmp 30) (.tmp 32)), none⟩,
    .op ⟨(some 3), (.mv (.tmp 33)), none⟩]
def r_f27_7 : List SOp :=
   [.op ⟨(some 34), (.bin .add (.tmp 10) (.av (.int .i64 1))), none⟩,
    .op ⟨(some 10), (.mv (.tmp 34)), none⟩]
def r_f27_8 : List SOp :=
   [.op ⟨(some 35), (.mv (.tmp 3)), none⟩,
    .op ⟨(some 36), (.len false (.tmp 35)), none⟩,
    .op ⟨(some 37), (.bin .gtr (.tmp 36) (.av (.int .i64 0))), none⟩,
    .op ⟨(some 38), (.mv (.tmp 37)), none⟩,
    .grp none 38 true
      [.op ⟨(some 39), (.mv (.tmp 3)), (some (38, true))⟩,
      .op ⟨(some 40), (.mv (.tmp 3)), (some (38, true))⟩,
      .op ⟨(some 41), (.len false (.tmp 40)), (some (38, true))⟩,
      .op ⟨(some 42), (.bin .sub (.tmp 41) (.av (.int .i64 1))), (some (38, true))⟩,
      .op ⟨(some 43), (.iaddr 1 (.tmp 39) (.tmp 42)), (some (38, true))⟩,
      .op ⟨(some 44), (.load false 1 (.tmp 43)), (some (38, true))⟩,
      .op ⟨(some 45), (.bin .eql (.tmp 44) (.av (.int .u8 32))), (some (38, true))⟩]
      46 (.tmp 45)]
def r_f27_9 : List SOp :=
   [.op ⟨(some 47), (.mv (.tmp 3)), none⟩,
    .op ⟨(some 48), (.mv (.tmp 3)), none⟩,
    .op ⟨(some 49), (.len false (.tmp 48)), none⟩,
    .op ⟨(some 50), (.bin .sub (.tmp 49) (.av (.int .i64 1))), none⟩,
    .op ⟨(some 51), (.slV 1 (.tmp 47) none (some (.tmp 50)) none), none⟩,
    .op ⟨(some 3), (.mv (.tmp 51)), none⟩]
def r_f27_10 : List SOp :=
   [.op ⟨(some 52), (.mv (.tmp 3)), none⟩,
    .op ⟨(some 53), (.b2s (.tmp 52)), none⟩,
    .op ⟨(some 2), (.mv (.tmp 53)), none⟩]
def c_f27 : LFun := ⟨54, (.seq (.sreg r_f27_0 [])
  (.seq (.sreg r_f27_1 [])
  (.seq (.seq (.sreg r_f27_2 [true, true, true, false, false])
  (.block 0 (.loop (.seq (.sreg r_f27_3 [])
  (.seq (.cond (.tmp 11) .skip
  (.exit 0))
  (.seq (.block 1 (.seq (.sreg r_f27_4 [true, false, false])
  (.seq (.seq (.sreg r_f27_5 [true, false, false, false])
  (.cond (.tmp 29) (.exit 1)
  .skip))
  (.sreg r_f27_6 [true, false, false, false, false]))))
  (.sreg r_f27_7 [true, false])))))))
  (.seq (.seq (.sreg r_f27_8 [true, false, false, false, false])
  (.cond (.tmp 46) (.sreg r_f27_9 [true, false, false, false, false, false])
  .skip))
  (.seq (.sreg r_f27_10 [true, false, false])
  .ret))))), [(.tmp 2)]⟩
def o_f27 : Nat → Nat → Nat := fun _ _ => 1
theorem c_f27_eq : lowF Tryz.prog o_f27 27 = some c_f27.raw := by kernel_rfl
theorem c_f27_ok : c_f27.code.okc = true := by kernel_rfl
/-! unicode/utf8.ValidString -/
def r_f28_0 : List SOp :=
   [.op ⟨(some 2), (.mv (.av (.bool false))), none⟩]
def r_f28_1 : List SOp :=
   [.op ⟨(some 7), (.mv (.tmp 0)), none⟩,
    .op ⟨(some 8), (.len true (.tmp 7)), none⟩,
    .op ⟨(some 9), (.bin .gtr (.tmp 8) (.av (.int .i64 0))), none⟩]
def r_f28_2 : List SOp :=
   [.op ⟨(some 10), (.mv (.tmp 0)), none⟩,
    .op ⟨(some 11), (.idxS (.tmp 10) (.av (.int .i64 0))), none⟩,
    .op ⟨(some 3), (.mv (.tmp 11)), none⟩]
def r_f28_3 : List SOp :=
   [.op ⟨(some 12), (.mv (.tmp 3)), none⟩,
    .op ⟨(some 13), (.bin .lss (.tmp 12) (.av (.int .u8 128))), none⟩]
def r_f28_4 : List SOp :=
   [.op ⟨(some 14), (.mv (.tmp 0)), none⟩,
    .op ⟨(some 15), (.slS (.tmp 14) (some (.av (.int .i64 1))) none), none⟩,
    .op ⟨(some 0), (.mv (.tmp 15)), none⟩]
def r_f28_5 : List SOp :=
   [.op ⟨(some 16), (.mv (.tmp 0)), none⟩,
    .op ⟨(some 17), (.len true (.tmp 16)), none⟩,
    .op ⟨(some 18), (.bin .gtr (.tmp 17) (.av (.int .i64 8))), none⟩,
    .op ⟨(some 19), (.mv (.tmp 18)), none⟩,
    .op ⟨(some 20), (.mv (.tmp 0)), (some (19, true))⟩,
    .op ⟨(some 21), (.call 65 [(.tmp 20)]), (some (19, true))⟩,
    .op ⟨(some 22), (.bin .and (.tmp 21) (.av (.int .u64 9259542123273814144))), (some (19, true))⟩,
    .op ⟨(some 23), (.bin .eql (.tmp 22) (.av (.int .u64 0))), (some (19, true))⟩,
    .op ⟨(some 24), (.pick (.tmp 19) (.tmp 23) (.av (.bool false))), none⟩]
def r_f28_6 : List SOp :=
   [.op ⟨(some 25), (.mv (.tmp 0)), none⟩,
    .op ⟨(some 26), (.slS (.tmp 25) (some (.av (.int .i64 8))) none), none⟩,
    .op ⟨(some 0), (.mv (.tmp 26)), none⟩]
def r_f28_7 : List (LOper × Kd) :=
   [(⟨(some 27), (.mv (.tmp 0)), none⟩, .pure),
    (⟨(some 28), (.len true (.tmp 27)), none⟩, (.read 0 0)),
    (⟨(some 29), (.bin .gtr (.tmp 28) (.av (.int .i64 16))), none⟩, .pure),
    (⟨(some 30), (.mv (.tmp 29)), none⟩, .pure),
    (⟨(some 31), (.mv (.tmp 0)), (some (30, true))⟩, .pure),
    (⟨(some 32), (.call 65 [(.tmp 31)]), (some (30, true))⟩, .eff),
    (⟨(some 33), (.mv (.tmp 0)), (some (30, true))⟩, .pure),
    (⟨(some 34), (.slS (.tmp 33) (some (.av (.int .i64 8))) none), (some (30, true))⟩, (.read 1 0))]
def r_f28_7t : List LOper :=
   [⟨(some 35), (.call 65 [(.tmp 34)]), (some (30, true))⟩,
    ⟨(some 36), (.bin .or (.tmp 32) (.tmp 35)), (some (30, true))⟩,
    ⟨(some 37), (.bin .and (.tmp 36) (.av (.int .u64 9259542123273814144))), (some (30, true))⟩,
    ⟨(some 38), (.bin .eql (.tmp 37) (.av (.int .u64 0))), (some (30, true))⟩,
    ⟨(some 39), (.pick (.tmp 30) (.tmp 38) (.av (.bool false))), none⟩]
def r_f28_8 : List SOp :=
   [.op ⟨(some 40), (.mv (.tmp 0)), none⟩,
    .op ⟨(some 41), (.slS (.tmp 40) (some (.av (.int .i64 16))) none), none⟩,
    .op ⟨(some 0), (.mv (.tmp 41)), none⟩]
def r_f28_9 : List (LOper × Kd) :=
   [(⟨(some 42), (.mv (.tmp 0)), none⟩, .pure),
    (⟨(some 43), (.len true (.tmp 42)), none⟩, (.read 0 0)),
    (⟨(some 44), (.bin .gtr (.tmp 43) (.av (.int .i64 32))), none⟩, .pure),
    (⟨(some 45), (.mv (.tmp 44)), none⟩, .pure),
    (⟨(some 46), (.mv (.tmp 0)), (some (45, true))⟩, .pure),
    (⟨(some 47), (.call 65 [(.tmp 46)]), (some (45, true))⟩, .eff),
    (⟨(some 48), (.mv (.tmp 0)), (some (45, true))⟩, .pure),
    (⟨(some 49), (.slS (.tmp 48) (some (.av (.int .i64 8))) none), (some (45, true))⟩, (.read 1 0)),
    (⟨(some 50), (.call 65 [(.tmp 49)]), (some (45, true))⟩, .eff),
    (⟨(some 51), (.bin .or (.tmp 47) (.tmp 50)), (some (45, true))⟩, .pure),
    (⟨(some 52), (.mv (.tmp 0)), (some (45, true))⟩, .pure),
    (⟨(some 53), (.slS (.tmp 52) (some (.av (.int .i64 16))) none), (some (45, true))⟩, (.read 2 0)),
    (⟨(some 54), (.call 65 [(.tmp 53)]), (some (45, true))⟩, .eff),
    (⟨(some 55), (.mv (.tmp 0)), (some (45, true))⟩, .pure),
    (⟨(some 56), (.slS (.tmp 55) (some (.av (.int .i64 24))) none), (some (45, true))⟩, (.read 3 0)),
    (⟨(some 57), (.call 65 [(.tmp 56)]), (some (45, true))⟩, .eff),
    (⟨(some 58), (.bin .or (.tmp 54) (.tmp 57)), (some (45, true))⟩, .pure)]
def r_f28_9t : List LOper :=
   [⟨(some 59), (.bin .or (.tmp 51) (.tmp 58)), (some (45, true))⟩,
    ⟨(some 60), (.bin .and (.tmp 59) (.av (.int .u64 9259542123273814144))), (some (45, true))⟩,
    ⟨(some 61), (.bin .eql (.tmp 60) (.av (.int .u64 0))), (some (45, true))⟩,
    ⟨(some 62), (.pick (.tmp 45) (.tmp 61) (.av (.bool false))), none⟩]
def r_f28_10 : List SOp :=
   [.op ⟨(some 63), (.mv (.tmp 0)), none⟩,
    .op ⟨(some 64), (.slS (.tmp 63) (some (.av (.int .i64 32))) none), none⟩,
    .op ⟨(some 0), (.mv (.tmp 64)), none⟩]
def r_f28_11 : List SOp :=
   [.op ⟨(some 65), (.mv (.tmp 3)), none⟩,
    .op ⟨(some 66), (.iaddrA 256 1 (.av (.gptr 0 0)) (.tmp 65)), none⟩,
    .op ⟨(some 67), (.load false 1 (.tmp 66)), none⟩,
    .op ⟨(some 4), (.mv (.tmp 67)), none⟩]
def r_f28_12 : List SOp :=
   [.op ⟨(some 68), (.mv (.tmp 4)), none⟩,
    .op ⟨(some 69), (.bin .and (.tmp 68) (.av (.int .u8 7))), none⟩,
    .op ⟨(some 70), (.conv .i64 (.tmp 69)), none⟩,
    .op ⟨(some 5), (.mv (.tmp 70)), none⟩]
def r_f28_13 : List SOp :=
   [.op ⟨(some 71), (.mv (.tmp 4)), none⟩,
    .op ⟨(some 72), (.bin .shr (.tmp 71) (.av (.int .u64 4))), none⟩,
    .op ⟨(some 73), (.iaddrA 16 2 (.av (.gptr 1 0)) (.tmp 72)), none⟩,
    .op ⟨(some 74), (.load true 2 (.tmp 73)), none⟩,
    .op ⟨(some 6), (.alloc [(.int .u8 0), (.int .u8 0)]), none⟩,
    .op ⟨none, (.store 2 (.tmp 6) (.tmp 74)), none⟩]
def r_f28_14 : List SOp :=
   [.op ⟨(some 75), (.mv (.tmp 5)), none⟩]
def r_f28_15 : List SOp :=
   [.op ⟨(some 77), (.bin .eql (.tmp 75) (.av (.int .i64 2))), none⟩,
    .op ⟨(some 76), (.mv (.tmp 77)), none⟩]
def r_f28_16 : List SOp :=
   [.op ⟨(some 78), (.mv (.tmp 0)), none⟩,
    .op ⟨(some 79), (.len true (.tmp 78)), none⟩,
    .op ⟨(some 80), (.bin .lss (.tmp 79) (.av (.int .i64 2))), none⟩,
    .op ⟨(some 81), (.mv (.tmp 80)), none⟩,
    .grp none 81 false
      [.op ⟨(some 82), (.mv (.tmp 0)), (some (81, false))⟩,
      .op ⟨(some 83), (.idxS (.tmp 82) (.av (.int .i64 1))), (some (81, false))⟩,
      .op ⟨(some 84), (.faddr 0 (.tmp 6)), (some (81, false))⟩,
      .op ⟨(some 85), (.load false 1 (.tmp 84)), (some (81, false))⟩,
      .op ⟨(some 86), (.bin .lss (.tmp 83) (.tmp 85)), (some (81, false))⟩]
      87 (.tmp 86),
    .op ⟨(some 88), (.mv (.tmp 87)), none⟩,
    .grp none 88 false
      [.op ⟨(some 89), (.faddr 1 (.tmp 6)), (some (88, false))⟩,
      .op ⟨(some 90), (.load false 1 (.tmp 89)), (some (88, false))⟩,
      .op ⟨(some 91), (.mv (.tmp 0)), (some (88, false))⟩,
      .op ⟨(some 92), (.idxS (.tmp 91) (.av (.int .i64 1))), (some (88, false))⟩,
      .op ⟨(some 93), (.bin .lss (.tmp 90) (.tmp 92)), (some (88, false))⟩]
      94 (.tmp 93)]
def r_f28_17 : List SOp :=
   [.op ⟨(some 2), (.mv (.av (.bool false))), none⟩]
def r_f28_18 : List SOp :=
   [.op ⟨(some 95), (.mv (.tmp 0)), none⟩,
    .op ⟨(some 96), (.slS (.tmp 95) (some (.av (.int .i64 2))) none), none⟩,
    .op ⟨(some 0), (.mv (.tmp 96)), none⟩]
def r_f28_19 : List SOp :=
   [.op ⟨(some 98), (.bin .eql (.tmp 75) (.av (.int .i64 3))), none⟩,
    .op ⟨(some 97), (.mv (.tmp 98)), none⟩]
def r_f28_20 : List SOp :=
   [.op ⟨(some 99), (.mv (.tmp 0)), none⟩,
    .op ⟨(some 100), (.len true (.tmp 99)), none⟩,
    .op ⟨(some 101), (.bin .lss (.tmp 100) (.av (.int .i64 3))), none⟩,
    .op ⟨(some 102), (.mv (.tmp 101)), none⟩,
    .grp none 102 false
      [.op ⟨(some 103), (.mv (.tmp 0)), (some (102, false))⟩,
      .op ⟨(some 104), (.idxS (.tmp 103) (.av (.int .i64 1))), (some (102, false))⟩,
      .op ⟨(some 105), (.faddr 0 (.tmp 6)), (some (102, false))⟩,
      .op ⟨(some 106), (.load false 1 (.tmp 105)), (some (102, false))⟩,
      .op ⟨(some 107), (.bin .lss (.tmp 104) (.tmp 106)), (some (102, false))⟩]
      108 (.tmp 107),
    .op ⟨(some 109), (.mv (.tmp 108)), none⟩,
    .grp none 109 false
      [.op ⟨(some 110), (.faddr 1 (.tmp 6)), (some (109, false))⟩,
      .op ⟨(some 111), (.load false 1 (.tmp 110)), (some (109, false))⟩,
      .op ⟨(some 112), (.mv (.tmp 0)), (some (109, false))⟩,
      .op ⟨(some 113), (.idxS (.tmp 112) (.av (.int .i64 1))), (some (109, false))⟩,
      .op ⟨(some 114), (.bin .lss (.tmp 111) (.tmp 113)), (some (109, false))⟩]
      115 (.tmp 114),
    .op ⟨(some 116), (.mv (.tmp 115)), none⟩,
    .grp none 116 false
      [.op ⟨(some 117), (.mv (.tmp 0)), (some (116, false))⟩,
      .op ⟨(some 118), (.idxS (.tmp 117) (.av (.int .i64 2))), (some (116, false))⟩,
      .op ⟨(some 119), (.bin .lss (.tmp 118) (.av (.int .u8 128))), (some (116, false))⟩]
      120 (.tmp 119),
    .op ⟨(some 121), (.mv (.tmp 120)), none⟩,
    .grp none 121 false
      [.op ⟨(some 122), (.mv (.tmp 0)), (some (121, false))⟩,
      .op ⟨(some 123), (.idxS (.tmp 122) (.av (.int .i64 2))), (some (121, false))⟩,
      .op ⟨(some 124), (.bin .lss (.av (.int .u8 191)) (.tmp 123)), (some (121, false))⟩]
      125 (.tmp 124)]
def r_f28_21 : List SOp :=
   [.op ⟨(some 2), (.mv (.av (.bool false))), none⟩]
def r_f28_22 : List SOp :=
   [.op ⟨(some 126), (.mv (.tmp 0)), none⟩,
    .op ⟨(some 127), (.slS (.tmp 126) (some (.av (.int .i64 3))) none), none⟩,
    .op ⟨(some 0), (.mv (.tmp 127)), none⟩]
def r_f28_23 : List SOp :=
   [.op ⟨(some 129), (.bin .eql (.tmp 75) (.av (.int .i64 4))), none⟩,
    .op ⟨(some 128), (.mv (.tmp 129)), none⟩]
def r_f28_24 : List SOp :=
   [.op ⟨(some 130), (.mv (.tmp 0)), none⟩,
    .op ⟨(some 131), (.len true (.tmp 130)), none⟩,
    .op ⟨(some 132), (.bin .lss (.tmp 131) (.av (.int .i64 4))), none⟩,
    .op ⟨(some 133), (.mv (.tmp 132)), none⟩,
    .grp none 133 false
      [.op ⟨(some 134), (.mv (.tmp 0)), (some (133, false))⟩,
      .op ⟨(some 135), (.idxS (.tmp 134) (.av (.int .i64 1))), (some (133, false))⟩,
      .op ⟨(some 136), (.faddr 0 (.tmp 6)), (some (133, false))⟩,
      .op ⟨(some 137), (.load false 1 (.tmp 136)), (some (133, false))⟩,
      .op ⟨(some 138), (.bin .lss (.tmp 135) (.tmp 137)), (some (133, false))⟩]
      139 (.tmp 138),
    .op ⟨(some 140), (.mv (.tmp 139)), none⟩,
    .grp none 140 false
      [.op ⟨(some 141), (.faddr 1 (.tmp 6)), (some (140, false))⟩,
      .op ⟨(some 142), (.load false 1 (.tmp 141)), (some (140, false))⟩,
      .op ⟨(some 143), (.mv (.tmp 0)), (some (140, false))⟩,
      .op ⟨(some 144), (.idxS (.tmp 143) (.av (.int .i64 1))), (some (140, false))⟩,
      .op ⟨(some 145), (.bin .lss (.tmp 142) (.tmp 144)), (some (140, false))⟩]
      146 (.tmp 145),
    .op ⟨(some 147), (.mv (.tmp 146)), none⟩,
    .grp none 147 false
      [.op ⟨(some 148), (.mv (.tmp 0)), (some (147, false))⟩,
      .op ⟨(some 149), (.idxS (.tmp 148) (.av (.int .i64 2))), (some (147, false))⟩,
      .op ⟨(some 150), (.bin .lss (.tmp 149) (.av (.int .u8 128))), (some (147, false))⟩]
      151 (.tmp 150),
    .op ⟨(some 152), (.mv (.tmp 151)), none⟩,
    .grp none 152 false
      [.op ⟨(some 153), (.mv (.tmp 0)), (some (152, false))⟩,
      .op ⟨(some 154), (.idxS (.tmp 153) (.av (.int .i64 2))), (some (152, false))⟩,
      .op ⟨(some 155), (.bin .lss (.av (.int .u8 191)) (.tmp 154)), (some (152, false))⟩]
      156 (.tmp 155),
    .op ⟨(some 157), (.mv (.tmp 156)), none⟩,
    .grp none 157 false
      [.op ⟨(some 158), (.mv (.tmp 0)), (some (157, false))⟩,
      .op ⟨(some 159), (.idxS (.tmp 158) (.av (.int .i64 3))), (some (157, false))⟩,
      .op ⟨(some 160), (.bin .lss (.tmp 159) (.av (.int .u8 128))), (some (157, false))⟩]
      161 (.tmp 160),
    .op ⟨(some 162), (.mv (.tmp 161)), none⟩,
    .grp none 162 false
      [.op ⟨(some 163), (.mv (.tmp 0)), (some (162, false))⟩,
      .op ⟨(some 164), (.idxS (.tmp 163) (.av (.int .i64 3))), (some (162, false))⟩,
      .op ⟨(some 165), (.bin .lss (.av (.int .u8 191)) (.tmp 164)), (some (162, false))⟩]
      166 (.tmp 165)]
def r_f28_25 : List SOp :=
   [.op ⟨(some 2), (.mv (.av (.bool false))), none⟩]
def r_f28_26 : List SOp :=
   [.op ⟨(some 167), (.mv (.tmp 0)), none⟩,
    .op ⟨(some 168), (.slS (.tmp 167) (some (.av (.int .i64 4))) none), none⟩,
    .op ⟨(some 0), (.mv (.tmp 168)), none⟩]
def r_f28_27 : List SOp :=
   [.op ⟨(some 2), (.mv (.av (.bool false))), none⟩]
def r_f28_28 : List SOp :=
   [.op ⟨(some 2), (.mv (.av (.bool true))), none⟩]
def c_f28 : LFun := ⟨169, (.seq (.sreg r_f28_0 [])
  (.seq (.block 0 (.loop (.seq (.seq (.sreg r_f28_1 [true, false, false])
  (.cond (.tmp 9) .skip
  (.exit 0)))
  (.block 1 (.seq (.sreg r_f28_2 [true, false, false])
  (.seq (.seq (.sreg r_f28_3 [true, false])
  (.cond (.tmp 13) (.seq (.sreg r_f28_4 [true, false, false])
  (.seq (.seq (.sreg r_f28_5 [true, false, false, false, false, false, false, false, false])
  (.cond (.tmp 24) (.seq (.sreg r_f28_6 [true, false, false])
  (.seq (.dregM r_f28_7 r_f28_7t [true, false, false, false, false, false, false, false, false, false, false, false, false])
  (.cond (.tmp 39) (.seq (.sreg r_f28_8 [true, false, false])
  (.block 2 (.loop (.seq (.seq (.dregM r_f28_9 r_f28_9t [true, false, false, false, false, false, false, false, false, false, false, false, false, false, false, false, false, false, false, false, false])
  (.cond (.tmp 62) .skip
  (.exit 2)))
  (.block 3 (.sreg r_f28_10 [true, false, false]))))))
  .skip)))
  .skip))
  (.exit 1)))
  .skip))
  (.seq (.sreg r_f28_11 [true, false, false, false])
  (.seq (.sreg r_f28_12 [true, false, false, false])
  (.seq (.sreg r_f28_13 [true, false, false, false, false])
  (.seq (.sreg r_f28_14 [])
  (.block 4 (.seq (.sreg r_f28_15 [true, false])
  (.cond (.tmp 76) (.seq (.seq (.sdreg r_f28_16 [.pure, (.read 0 0), .pure, .pure, .pure, (.read 0 0), .pure, (.read 0 0), .pure, .pure, .pure, .pure, (.read 0 0), .pure, (.read 0 0)] [true, false, false, false, false, false, false])
  (.cond (.tmp 94) (.seq (.sreg r_f28_17 [])
  .ret)
  .skip))
  (.sreg r_f28_18 [true, false, false]))
  (.seq (.sreg r_f28_19 [true, false])
  (.cond (.tmp 97) (.seq (.seq (.sdreg r_f28_20 [.pure, (.read 0 0), .pure, .pure, .pure, (.read 0 0), .pure, (.read 0 0), .pure, .pure, .pure, .pure, (.read 0 0), .pure, (.read 0 0)] [true, false, false, false, false, false, false, false, false, false, false])
  (.cond (.tmp 125) (.seq (.sreg r_f28_21 [])
  .ret)
  .skip))
  (.sreg r_f28_22 [true, false, false]))
  (.seq (.sreg r_f28_23 [true, false])
  (.cond (.tmp 128) (.seq (.seq (.sdreg r_f28_24 [.pure, (.read 0 0), .pure, .pure, .pure, (.read 0 0), .pure, (.read 0 0), .pure, .pure, .pure, .pure, (.read 0 0), .pure, (.read 0 0)] [true, false, false, false, false, false, false, false, false, false, false, false, false, false, false])
  (.cond (.tmp 166) (.seq (.sreg r_f28_25 [])
  .ret)
  .skip))
  (.sreg r_f28_26 [true, false, false]))
  (.seq (.sreg r_f28_27 [])
  .ret))))))))))))))))))
  (.seq (.sreg r_f28_28 [])
  .ret))), [(.tmp 2)]⟩
def o_f28 : Nat → Nat → Nat := fun r i => if r = 7 ∧ i = 5 then 3 else if r = 7 ∧ i = 8 then 3 else if r = 9 ∧ i = 5 then 3 else if r = 9 ∧ i = 8 then 3 else if r = 9 ∧ i = 12 then 3 else if r = 9 ∧ i = 15 then 3 else 1
theorem c_f28_eq : lowF Tryz.prog o_f28 28 = some c_f28.raw := by kernel_rfl
theorem c_f28_ok : c_f28.code.okc = true := by kernel_rfl
/-! strings.IndexFunc -/
def r_f29_0 : List SOp :=
   [.op ⟨(some 4), (.mv (.av (.int .i64 0))), none⟩]
def r_f29_1 : List SOp :=
   [.op ⟨(some 5), (.mv (.tmp 0)), none⟩,
    .op ⟨(some 6), (.mv (.tmp 1)), none⟩,
    .op ⟨(some 7), (.call 66 [(.tmp 5), (.tmp 6), (.av (.bool true))]), none⟩,
    .op ⟨(some 4), (.mv (.tmp 7)), none⟩]
def c_f29 : LFun := ⟨8, (.seq (.sreg r_f29_0 [])
  (.seq (.sreg r_f29_1 [true, false, false, false])
  .ret)), [(.tmp 4)]⟩
def o_f29 : Nat → Nat → Nat := fun _ _ => 1
theorem c_f29_eq : lowF Tryz.prog o_f29 29 = some c_f29.raw := by kernel_rfl
theorem c_f29_ok : c_f29.code.okc = true := by kernel_rfl
/-! castellan/syntax.Norm$1 -/
def r_f30_0 : List SOp :=
   [.op ⟨(some 2), (.mv (.av (.bool false))), none⟩]
def r_f30_1 : List SOp :=
   [.op ⟨(some 3), (.mv (.tmp 0)), none⟩,
    .op ⟨(some 4), (.bin .geq (.tmp 3) (.av (.int .i32 128))), none⟩,
    .op ⟨(some 2), (.mv (.tmp 4)), none⟩]
def c_f30 : LFun := ⟨5, (.seq (.sreg r_f30_0 [])
  (.seq (.sreg r_f30_1 [true, false, false])
  .ret)), [(.tmp 2)]⟩
def o_f30 : Nat → Nat → Nat := fun _ _ => 1
theorem c_f30_eq : lowF Tryz.prog o_f30 30 = some c_f30.raw := by kernel_rfl
theorem c_f30_ok : c_f30.code.okc = true := by kernel_rfl
/-! castellan/syntax.number -/
def r_f31_0 : List SOp :=
   [.op ⟨(some 2), (.mv (.av (.int .i64 0))), none⟩,
    .op ⟨(some 3), (.mv (.av (.bool false))), none⟩]
def r_f31_1 : List SOp :=
   [.op ⟨(some 7), (.mv (.tmp 0)), none⟩,
    .op ⟨(some 8), (.call 67 [(.tmp 7), (.av (.int .i64 10)), (.av (.int .i64 64))]), none⟩,
    .op ⟨(some 6), (.mv (.tmp 8)), none⟩,
    .op ⟨(some 9), (.extract (.tmp 6) 0), none⟩,
    .op ⟨(some 10), (.extract (.tmp 6) 1), none⟩,
    .op ⟨(some 4), (.mv (.tmp 9)), none⟩,
    .op ⟨(some 5), (.mv (.tmp 10)), none⟩]
def r_f31_2 : List SOp :=
   [.op ⟨(some 11), (.mv (.tmp 4)), none⟩,
    .op ⟨(some 12), (.mv (.tmp 5)), none⟩,
    .op ⟨(some 13), (.eqk false .iface (.tmp 12) (.av .nilif)), none⟩,
    .op ⟨(some 14), (.mv (.tmp 13)), none⟩,
    .op ⟨(some 15), (.mv (.tmp 4)), (some (14, true))⟩,
    .op ⟨(some 16), (.call 7 [(.tmp 15), (.av (.int .i64 10))]), (some (14, true))⟩,
    .op ⟨(some 17), (.mv (.tmp 0)), (some (14, true))⟩,
    .op ⟨(some 18), (.bin .eql (.tmp 16) (.tmp 17)), (some (14, true))⟩,
    .op ⟨(some 19), (.pick (.tmp 14) (.tmp 18) (.av (.bool false))), none⟩,
    .op ⟨(some 2), (.mv (.tmp 11)), none⟩,
    .op ⟨(some 3), (.mv (.tmp 19)), none⟩]
def c_f31 : LFun := ⟨20, (.seq (.sreg r_f31_0 [])
  (.seq (.sreg r_f31_1 [true, true, false, false, false, false, false])
  (.seq (.sreg r_f31_2 [true, true, false, false, false, false, false, false, false, false, false])
  .ret))), [(.tmp 2), (.tmp 3)]⟩
def o_f31 : Nat → Nat → Nat := fun _ _ => 1
theorem c_f31_eq : lowF Tryz.prog o_f31 31 = some c_f31.raw := by kernel_rfl
theorem c_f31_ok : c_f31.code.okc = true := by kernel_rfl
/-! castellan/dn.Key -/
def r_f32_0 : List SOp :=
   [.op ⟨(some 2), (.mv (.av (.str []))), none⟩,
    .op ⟨(some 3), (.mv (.av (.int .i64 0))), none⟩]
def r_f32_1 : List SOp :=
   [.op ⟨(some 7), (.mv (.tmp 0)), none⟩,
    .op ⟨(some 8), (.call 68 [(.tmp 7)]), none⟩,
    .op ⟨(some 6), (.mv (.tmp 8)), none⟩,
    .op ⟨(some 9), (.extract (.tmp 6) 0), none⟩,
    .op ⟨(some 10), (.extract (.tmp 6) 1), none⟩,
    .op ⟨(some 4), (.mv (.tmp 9)), none⟩,
    .op ⟨(some 5), (.mv (.tmp 10)), none⟩]
def r_f32_2 : List SOp :=
   [.op ⟨(some 11), (.mv (.tmp 5)), none⟩,
    .op ⟨(some 12), (.bin .neq (.tmp 11) (.av (.int .i64 0))), none⟩]
def r_f32_3 : List SOp :=
   [.op ⟨(some 13), (.mv (.tmp 5)), none⟩,
    .op ⟨(some 2), (.mv (.av (.str []))), none⟩,
    .op ⟨(some 3), (.mv (.tmp 13)), none⟩]
def r_f32_4 : List SOp :=
   [.op ⟨(some 14), (.mv (.tmp 4)), none⟩,
    .op ⟨(some 15), (.call 69 [(.tmp 14)]), none⟩,
    .op ⟨(some 16), (.extract (.tmp 15) 0), none⟩,
    .op ⟨(some 17), (.extract (.tmp 15) 1), none⟩,
    .op ⟨(some 2), (.mv (.tmp 16)), none⟩,
    .op ⟨(some 3), (.mv (.tmp 17)), none⟩]
def c_f32 : LFun := ⟨18, (.seq (.sreg r_f32_0 [])
  (.seq (.sreg r_f32_1 [true, true, false, false, false, false, false])
  (.seq (.seq (.sreg r_f32_2 [true, false])
  (.cond (.tmp 12) (.seq (.sreg r_f32_3 [true, true, false])
  .ret)
  .skip))
  (.seq (.sreg r_f32_4 [true, true, false, false, false, false])
  .ret)))), [(.tmp 2), (.tmp 3)]⟩
def o_f32 : Nat → Nat → Nat := fun _ _ => 1
theorem c_f32_eq : lowF Tryz.prog o_f32 32 = some c_f32.raw := by kernel_rfl
theorem c_f32_ok : c_f32.code.okc = true := by kernel_rfl
/-! castellan/syntax.moment -/
def r_f33_0 : List SOp :=
   [.op ⟨(some 1), (.box (.tmp 0)), none⟩,
    .op ⟨(some 2), (.mv (.av (.bool false))), none⟩]
def r_f33_1 : List SOp :=
   [.op ⟨(some 10), (.load false 1 (.tmp 1)), none⟩,
    .op ⟨(some 11), (.len true (.tmp 10)), none⟩,
    .op ⟨(some 12), (.bin .neq (.tmp 11) (.av (.int .i64 15))), none⟩,
    .op ⟨(some 13), (.mv (.tmp 12)), none⟩,
    .grp none 13 false
      [.op ⟨(some 14), (.load false 1 (.tmp 1)), (some (13, false))⟩,
      .op ⟨(some 15), (.idxS (.tmp 14) (.av (.int .i64 14))), (some (13, false))⟩,
      .op ⟨(some 16), (.bin .neq (.tmp 15) (.av (.int .u8 90))), (some (13, false))⟩]
      17 (.tmp 16)]
def r_f33_2 : List SOp :=
   [.op ⟨(some 2), (.mv (.av (.bool false))), none⟩]
def r_f33_3 : List SOp :=
   [.op ⟨(some 18), (.load false 1 (.tmp 1)), none⟩,
    .op ⟨(some 19), (.slS (.tmp 18) none (some (.av (.int .i64 14)))), none⟩,
    .op ⟨(some 20), (.s2b (.tmp 19)), none⟩,
    .op ⟨(some 21), (.len false (.tmp 20)), none⟩,
    .op ⟨(some 22), (.mv (.av (.int .i64 0))), none⟩]
def r_f33_4 : List SOp :=
   [.op ⟨(some 23), (.bin .lss (.tmp 22) (.tmp 21)), none⟩]
def r_f33_5 : List SOp :=
   [.op ⟨(some 24), (.iaddr 1 (.tmp 20) (.tmp 22)), none⟩,
    .op ⟨(some 25), (.load false 1 (.tmp 24)), none⟩,
    .op ⟨(some 4), (.mv (.tmp 25)), none⟩]
def r_f33_6 : List SOp :=
   [.op ⟨(some 26), (.mv (.tmp 4)), none⟩,
    .op ⟨(some 27), (.bin .lss (.tmp 26) (.av (.int .u8 48))), none⟩,
    .op ⟨(some 28), (.mv (.tmp 27)), none⟩,
    .grp none 28 false
      [.op ⟨(some 29), (.mv (.tmp 4)), (some (28, false))⟩,
      .op ⟨(some 30), (.bin .gtr (.tmp 29) (.av (.int .u8 57))), (some (28, false))⟩]
      31 (.tmp 30)]
def r_f33_7 : List SOp :=
   [.op ⟨(some 2), (.mv (.av (.bool false))), none⟩]
def r_f33_8 : List SOp :=
   [.op ⟨(some 32), (.bin .add (.tmp 22) (.av (.int .i64 1))), none⟩,
    .op ⟨(some 22), (.mv (.tmp 32)), none⟩]
def r_f33_9 : List SOp :=
   [.op ⟨(some 33), (.mkfn 70 [(.tmp 1)]), none⟩,
    .op ⟨(some 5), (.mv (.tmp 33)), none⟩]
def r_f33_10 : List SOp :=
   [.op ⟨(some 34), (.mv (.tmp 5)), none⟩,
    .op ⟨(some 35), (.callv (.tmp 34) [(.av (.int .i64 0))]), none⟩,
    .op ⟨(some 36), (.bin .mul (.tmp 35) (.av (.int .i64 100))), none⟩,
    .op ⟨(some 37), (.mv (.tmp 5)), none⟩,
    .op ⟨(some 38), (.callv (.tmp 37) [(.av (.int .i64 2))]), none⟩,
    .op ⟨(some 39), (.bin .add (.tmp 36) (.tmp 38)), none⟩,
    .op ⟨(some 40), (.mv (.tmp 5)), none⟩,
    .op ⟨(some 41), (.callv (.tmp 40) [(.av (.int .i64 4))]), none⟩,
    .op ⟨(some 42), (.mv (.tmp 5)), none⟩,
    .op ⟨(some 43), (.callv (.tmp 42) [(.av (.int .i64 6))]), none⟩,
    .op ⟨(some 6), (.mv (.tmp 39)), none⟩,
    .op ⟨(some 7), (.mv (.tmp 41)), none⟩,
    .op ⟨(some 8), (.mv (.tmp 43)), none⟩]
def r_f33_11 : List SOp :=
   [.op ⟨(some 44), (.mv (.tmp 7)), none⟩,
    .op ⟨(some 45), (.bin .lss (.tmp 44) (.av (.int .i64 1))), none⟩,
    .op ⟨(some 46), (.mv (.tmp 45)), none⟩,
    .op ⟨(some 47), (.mv (.tmp 7)), (some (46, false))⟩,
    .op ⟨(some 48), (.bin .gtr (.tmp 47) (.av (.int .i64 12))), (some (46, false))⟩,
    .op ⟨(some 49), (.pick (.tmp 46) (.av (.bool true)) (.tmp 48)), none⟩,
    .op ⟨(some 50), (.mv (.tmp 49)), none⟩,
    .op ⟨(some 51), (.mv (.tmp 8)), (some (50, false))⟩,
    .op ⟨(some 52), (.bin .lss (.tmp 51) (.av (.int .i64 1))), (some (50, false))⟩,
    .op ⟨(some 53), (.pick (.tmp 50) (.av (.bool true)) (.tmp 52)), none⟩,
    .op ⟨(some 54), (.mv (.tmp 53)), none⟩,
    .op ⟨(some 55), (.mv (.tmp 5)), (some (54, false))⟩,
    .op ⟨(some 56), (.callv (.tmp 55) [(.av (.int .i64 8))]), (some (54, false))⟩,
    .op ⟨(some 57), (.bin .gtr (.tmp 56) (.av (.int .i64 23))), (some (54, false))⟩,
    .op ⟨(some 58), (.pick (.tmp 54) (.av (.bool true)) (.tmp 57)), none⟩,
    .op ⟨(some 59), (.mv (.tmp 58)), none⟩,
    .op ⟨(some 60), (.mv (.tmp 5)), (some (59, false))⟩,
    .op ⟨(some 61), (.callv (.tmp 60) [(.av (.int .i64 10))]), (some (59, false))⟩,
    .op ⟨(some 62), (.bin .gtr (.tmp 61) (.av (.int .i64 59))), (some (59, false))⟩,
    .op ⟨(some 63), (.pick (.tmp 59) (.av (.bool true)) (.tmp 62)), none⟩,
    .op ⟨(some 64), (.mv (.tmp 63)), none⟩,
    .op ⟨(some 65), (.mv (.tmp 5)), (some (64, false))⟩,
    .op ⟨(some 66), (.callv (.tmp 65) [(.av (.int .i64 12))]), (some (64, false))⟩,
    .op ⟨(some 67), (.bin .gtr (.tmp 66) (.av (.int .i64 59))), (some (64, false))⟩,
    .op ⟨(some 68), (.pick (.tmp 64) (.av (.bool true)) (.tmp 67)), none⟩]
def r_f33_12 : List SOp :=
   [.op ⟨(some 2), (.mv (.av (.bool false))), none⟩]
def r_f33_13 : List SOp :=
   [.op ⟨(some 69), (.mv (.tmp 7)), none⟩,
    .op ⟨(some 70), (.bin .sub (.tmp 69) (.av (.int .i64 1))), none⟩,
    .op ⟨(some 71), (.iaddrA 12 1 (.av (.gptr 2 0)) (.tmp 70)), none⟩,
    .op ⟨(some 72), (.load false 1 (.tmp 71)), none⟩,
    .op ⟨(some 9), (.mv (.tmp 72)), none⟩]
def r_f33_14 : List SOp :=
   [.op ⟨(some 73), (.mv (.tmp 7)), none⟩,
    .op ⟨(some 74), (.bin .eql (.tmp 73) (.av (.int .i64 2))), none⟩,
    .op ⟨(some 75), (.mv (.tmp 74)), none⟩,
    .grp none 75 true
      [.op ⟨(some 76), (.mv (.tmp 6)), (some (75, true))⟩,
      .op ⟨(some 77), (.bin .rem (.tmp 76) (.av (.int .i64 4))), (some (75, true))⟩,
      .op ⟨(some 78), (.bin .eql (.tmp 77) (.av (.int .i64 0))), (some (75, true))⟩,
      .op ⟨(some 79), (.mv (.tmp 78)), (some (75, true))⟩,
      .grp (some (75, true)) 79 true
        [.op ⟨(some 80), (.mv (.tmp 6)), (some (79, true))⟩,
        .op ⟨(some 81), (.bin .rem (.tmp 80) (.av (.int .i64 100))), (some (79, true))⟩,
        .op ⟨(some 82), (.bin .neq (.tmp 81) (.av (.int .i64 0))), (some (79, true))⟩]
        83 (.tmp 82),
      .op ⟨(some 84), (.mv (.tmp 83)), (some (75, true))⟩,
      .grp (some (75, true)) 84 false
        [.op ⟨(some 85), (.mv (.tmp 6)), (some (84, false))⟩,
        .op ⟨(some 86), (.bin .rem (.tmp 85) (.av (.int .i64 400))), (some (84, false))⟩,
        .op ⟨(some 87), (.bin .eql (.tmp 86) (.av (.int .i64 0))), (some (84, false))⟩]
        88 (.tmp 87)]
      89 (.tmp 88)]
def r_f33_15 : List SOp :=
   [.op ⟨(some 90), (.mv (.tmp 9)), none⟩,
    .op ⟨(some 91), (.bin .add (.tmp 90) (.av (.int .i64 1))), none⟩,
    .op ⟨(some 9), (.mv (.tmp 91)), none⟩]
def r_f33_16 : List SOp :=
   [.op ⟨(some 92), (.mv (.tmp 8)), none⟩,
    .op ⟨(some 93), (.mv (.tmp 9)), none⟩,
    .op ⟨(some 94), (.bin .leq (.tmp 92) (.tmp 93)), none⟩,
    .op ⟨(some 2), (.mv (.tmp 94)), none⟩]
def c_f33 : LFun := ⟨95, (.seq (.sreg r_f33_0 [])
  (.seq (.seq (.sreg r_f33_1 [true, false, false, false, false])
  (.cond (.tmp 17) (.seq (.sreg r_f33_2 [])
  .ret)
  .skip))
  (.seq (.seq (.sreg r_f33_3 [true, true, true, false, false])
  (.block 0 (.loop (.seq (.sreg r_f33_4 [])
  (.seq (.cond (.tmp 23) .skip
  (.exit 0))
  (.seq (.block 1 (.seq (.sreg r_f33_5 [true, false, false])
  (.seq (.sreg r_f33_6 [true, false, false, false])
  (.cond (.tmp 31) (.seq (.sreg r_f33_7 [])
  .ret)
  .skip))))
  (.sreg r_f33_8 [true, false])))))))
  (.seq (.sreg r_f33_9 [true, false])
  (.seq (.sreg r_f33_10 [true, true, true, false, false, false, false, false, false, false, false, false, false])
  (.seq (.seq (.sreg r_f33_11 [true, false, false, false, false, false, false, false, false, false, false, false, false, false, false, false, false, false, false, false, false, false, false, false, false])
  (.cond (.tmp 68) (.seq (.sreg r_f33_12 [])
  .ret)
  .skip))
  (.seq (.sreg r_f33_13 [true, false, false, false, false])
  (.seq (.seq (.sreg r_f33_14 [true, false, false, false])
  (.cond (.tmp 89) (.sreg r_f33_15 [true, false, false])
  .skip))
  (.seq (.sreg r_f33_16 [true, false, false, false])
  .ret))))))))), [(.tmp 2)]⟩
def o_f33 : Nat → Nat → Nat := fun _ _ => 1
theorem c_f33_eq : lowF Tryz.prog o_f33 33 = some c_f33.raw := by kernel_rfl
theorem c_f33_ok : c_f33.code.okc = true := by kernel_rfl
/-! cmp.Compare[int64] -/
def r_f34_0 : List SOp :=
   [.op ⟨(some 4), (.mv (.av (.int .i64 0))), none⟩]
def r_f34_1 : List SOp :=
   [.op ⟨(some 7), (.mv (.tmp 0)), none⟩,
    .op ⟨(some 8), (.call 71 [(.tmp 7)]), none⟩,
    .op ⟨(some 5), (.mv (.tmp 8)), none⟩]
def r_f34_2 : List SOp :=
   [.op ⟨(some 9), (.mv (.tmp 1)), none⟩,
    .op ⟨(some 10), (.call 71 [(.tmp 9)]), none⟩,
    .op ⟨(some 6), (.mv (.tmp 10)), none⟩]
def r_f34_3 : List SOp :=
   [.op ⟨(some 11), (.mv (.tmp 5)), none⟩]
def r_f34_4 : List SOp :=
   [.op ⟨(some 12), (.mv (.tmp 6)), none⟩]
def r_f34_5 : List SOp :=
   [.op ⟨(some 4), (.mv (.av (.int .i64 0))), none⟩]
def r_f34_6 : List SOp :=
   [.op ⟨(some 4), (.mv (.av (.int .i64 (-1)))), none⟩]
def r_f34_7 : List SOp :=
   [.op ⟨(some 13), (.mv (.tmp 6)), none⟩]
def r_f34_8 : List SOp :=
   [.op ⟨(some 4), (.mv (.av (.int .i64 1))), none⟩]
def r_f34_9 : List SOp :=
   [.op ⟨(some 14), (.mv (.tmp 0)), none⟩,
    .op ⟨(some 15), (.mv (.tmp 1)), none⟩,
    .op ⟨(some 16), (.bin .lss (.tmp 14) (.tmp 15)), none⟩]
def r_f34_10 : List SOp :=
   [.op ⟨(some 4), (.mv (.av (.int .i64 (-1)))), none⟩]
def r_f34_11 : List SOp :=
   [.op ⟨(some 17), (.mv (.tmp 0)), none⟩,
    .op ⟨(some 18), (.mv (.tmp 1)), none⟩,
    .op ⟨(some 19), (.bin .gtr (.tmp 17) (.tmp 18)), none⟩]
def r_f34_12 : List SOp :=
   [.op ⟨(some 4), (.mv (.av (.int .i64 1))), none⟩]
def r_f34_13 : List SOp :=
   [.op ⟨(some 4), (.mv (.av (.int .i64 0))), none⟩]
def c_f34 : LFun := ⟨20, (.seq (.sreg r_f34_0 [])
  (.seq (.sreg r_f34_1 [true, false, false])
  (.seq (.sreg r_f34_2 [true, false, false])
  (.seq (.seq (.sreg r_f34_3 [])
  (.cond (.tmp 11) (.seq (.seq (.sreg r_f34_4 [])
  (.cond (.tmp 12) (.seq (.sreg r_f34_5 [])
  .ret)
  .skip))
  (.seq (.sreg r_f34_6 [])
  .ret))
  .skip))
  (.seq (.seq (.sreg r_f34_7 [])
  (.cond (.tmp 13) (.seq (.sreg r_f34_8 [])
  .ret)
  .skip))
  (.seq (.seq (.sreg r_f34_9 [true, false, false])
  (.cond (.tmp 16) (.seq (.sreg r_f34_10 [])
  .ret)
  .skip))
  (.seq (.seq (.sreg r_f34_11 [true, false, false])
  (.cond (.tmp 19) (.seq (.sreg r_f34_12 [])
  .ret)
  .skip))
  (.seq (.sreg r_f34_13 [])
  .ret)))))))), [(.tmp 4)]⟩
def o_f34 : Nat → Nat → Nat := fun _ _ => 1
theorem c_f34_eq : lowF Tryz.prog o_f34 34 = some c_f34.raw := by kernel_rfl
theorem c_f34_ok : c_f34.code.okc = true := by kernel_rfl
/-! strings.Compare -/
def r_f35_0 : List SOp :=
   [.op ⟨(some 4), (.mv (.av (.int .i64 0))), none⟩]
def r_f35_1 : List SOp :=
   [.op ⟨(some 5), (.mv (.tmp 0)), none⟩,
    .op ⟨(some 6), (.mv (.tmp 1)), none⟩,
    .op ⟨(some 7), (.call 72 [(.tmp 5), (.tmp 6)]), none⟩,
    .op ⟨(some 4), (.mv (.tmp 7)), none⟩]
def c_f35 : LFun := ⟨8, (.seq (.sreg r_f35_0 [])
  (.seq (.sreg r_f35_1 [true, false, false, false])
  .ret)), [(.tmp 4)]⟩
def o_f35 : Nat → Nat → Nat := fun _ _ => 1
theorem c_f35_eq : lowF Tryz.prog o_f35 35 = some c_f35.raw := by kernel_rfl
theorem c_f35_ok : c_f35.code.okc = true := by kernel_rfl
/-! castellan/filt.Check -/
def r_f73_0 : List SOp :=
   [.op ⟨(some 1), (.box (.tmp 0)), none⟩,
    .op ⟨(some 2), (.mv (.av (.int .i64 0))), none⟩]
def r_f73_1 : List SOp :=
   [.op ⟨(some 3), (.alloc [(.int .i64 0)]), none⟩,
    .op ⟨(some 4), (.load true 5 (.tmp 1)), none⟩,
    .op ⟨(some 5), (.call 107 [(.tmp 3), (.tmp 4), (.av (.int .i64 1))]), none⟩,
    .op ⟨(some 2), (.mv (.tmp 5)), none⟩]
def c_f73 : LFun := ⟨6, (.seq (.sreg r_f73_0 [])
  (.seq (.sreg r_f73_1 [true, false, false, false])
  .ret)), [(.tmp 2)]⟩
def o_f73 : Nat → Nat → Nat := fun _ _ => 1
theorem c_f73_eq : lowF Tryz.prog o_f73 73 = some c_f73.raw := by kernel_rfl
theorem c_f73_ok : c_f73.code.okc = true := by kernel_rfl
/-! castellan/octet.Fold -/
def r_f44_0 : List SOp :=
   [.op ⟨(some 2), (.mv (.av (.str []))), none⟩]
def r_f44_1 : List SOp :=
   [.op ⟨(some 6), (.mv (.tmp 0)), none⟩,
    .op ⟨(some 7), (.s2bO (.tmp 6)), none⟩,
    .op ⟨(some 3), (.mv (.tmp 7)), none⟩]
def r_f44_2 : List SOp :=
   [.op ⟨(some 8), (.mv (.tmp 3)), none⟩,
    .op ⟨(some 9), (.len false (.tmp 8)), none⟩,
    .op ⟨(some 10), (.mv (.av (.int .i64 0))), none⟩]
def r_f44_3 : List SOp :=
   [.op ⟨(some 11), (.bin .lss (.tmp 10) (.tmp 9)), none⟩]
def r_f44_4 : List SOp :=
   [.op ⟨(some 12), (.mv (.tmp 10)), none⟩,
    .op ⟨(some 13), (.iaddr 1 (.tmp 8) (.tmp 10)), none⟩,
    .op ⟨(some 14), (.load false 1 (.tmp 13)), none⟩,
    .op ⟨(some 4), (.mv (.tmp 12)), none⟩,
    .op ⟨(some 5), (.mv (.tmp 14)), none⟩]
def r_f44_5 : List SOp :=
   [.op ⟨(some 15), (.mv (.tmp 5)), none⟩,
    .op ⟨(some 16), (.bin .geq (.tmp 15) (.av (.int .u8 65))), none⟩,
    .op ⟨(some 17), (.mv (.tmp 16)), none⟩,
    .grp none 17 true
      [.op ⟨(some 18), (.mv (.tmp 5)), (some (17, true))⟩,
      .op ⟨(some 19), (.bin .leq (.tmp 18) (.av (.int .u8 90))), (some (17, true))⟩]
      20 (.tmp 19)]
def r_f44_6 : List SOp :=
   [.op ⟨(some 21), (.mv (.tmp 3)), none⟩,
    .op ⟨(some 22), (.mv (.tmp 4)), none⟩,
    .op ⟨(some 23), (.mv (.tmp 5)), none⟩,
    .op ⟨(some 24), (.bin .add (.tmp 23) (.av (.int .u8 32))), none⟩,
    .op ⟨(some 25), (.iaddr 1 (.tmp 21) (.tmp 22)), none⟩,
    .op ⟨none, (.store 1 (.tmp 25) (.tmp 24)), none⟩]
def r_f44_7 : List SOp :=
   [.op ⟨(some 26), (.bin .add (.tmp 10) (.av (.int .i64 1))), none⟩,
    .op ⟨(some 10), (.mv (.tmp 26)), none⟩]
def r_f44_8 : List SOp :=
   [.op ⟨(some 27), (.mv (.tmp 3)), none⟩,
    .op ⟨(some 28), (.b2s (.tmp 27)), none⟩,
    .op ⟨(some 2), (.mv (.tmp 28)), none⟩]
def c_f44 : LFun := ⟨29, (.seq (.sreg r_f44_0 [])
  (.seq (.sreg r_f44_1 [true, false, false])
  (.seq (.seq (.sreg r_f44_2 [])
  (.block 0 (.loop (.seq (.sreg r_f44_3 [])
  (.seq (.cond (.tmp 11) .skip
  (.exit 0))
  (.seq (.block 1 (.seq (.sreg r_f44_4 [true, true, false, false, false])
  (.seq (.sreg r_f44_5 [true, false, false, false])
  (.cond (.tmp 20) (.sreg r_f44_6 [false, false, false, false, false])
  .skip))))
  (.sreg r_f44_7 [true, false])))))))
  (.seq (.sreg r_f44_8 [true, false, false])
  .ret)))), [(.tmp 2)]⟩
def o_f44 : Nat → Nat → Nat := fun r i => if r = 1 ∧ i = 1 then 2 else 1
theorem c_f44_eq : lowF Tryz.prog o_f44 44 = some c_f44.raw := by kernel_rfl
theorem c_f44_ok : c_f44.code.okc = true := by kernel_rfl
/-! strings.Index -/
def r_f74_0 : List SOp :=
   [.op ⟨(some 4), (.mv (.av (.int .i64 0))), none⟩]
def r_f74_1 : List SOp :=
   [.op ⟨(some 5), (.mv (.tmp 0)), none⟩,
    .op ⟨(some 6), (.mv (.tmp 1)), none⟩,
    .op ⟨(some 7), (.call 108 [(.tmp 5), (.tmp 6)]), none⟩,
    .op ⟨(some 4), (.mv (.tmp 7)), none⟩]
def c_f74 : LFun := ⟨8, (.seq (.sreg r_f74_0 [])
  (.seq (.sreg r_f74_1 [true, false, false, false])
  .ret)), [(.tmp 4)]⟩
def o_f74 : Nat → Nat → Nat := fun _ _ => 1
theorem c_f74_eq : lowF Tryz.prog o_f74 74 = some c_f74.raw := by kernel_rfl
theorem c_f74_ok : c_f74.code.okc = true := by kernel_rfl
/-! strings.HasPrefix -/
def r_f75_0 : List SOp :=
   [.op ⟨(some 4), (.mv (.av (.bool false))), none⟩]
def r_f75_1 : List SOp :=
   [.op ⟨(some 5), (.mv (.tmp 0)), none⟩,
    .op ⟨(some 6), (.mv (.tmp 1)), none⟩,
    .op ⟨(some 7), (.call 109 [(.tmp 5), (.tmp 6)]), none⟩,
    .op ⟨(some 4), (.mv (.tmp 7)), none⟩]
def c_f75 : LFun := ⟨8, (.seq (.sreg r_f75_0 [])
  (.seq (.sreg r_f75_1 [true, false, false, false])
  .ret)), [(.tmp 4)]⟩
def o_f75 : Nat → Nat → Nat := fun _ _ => 1
theorem c_f75_eq : lowF Tryz.prog o_f75 75 = some c_f75.raw := by kernel_rfl
theorem c_f75_ok : c_f75.code.okc = true := by kernel_rfl
/-! strings.HasSuffix -/
def r_f76_0 : List SOp :=
   [.op ⟨(some 4), (.mv (.av (.bool false))), none⟩]
def r_f76_1 : List SOp :=
   [.op ⟨(some 5), (.mv (.tmp 0)), none⟩,
    .op ⟨(some 6), (.mv (.tmp 1)), none⟩,
    .op ⟨(some 7), (.call 110 [(.tmp 5), (.tmp 6)]), none⟩,
    .op ⟨(some 4), (.mv (.tmp 7)), none⟩]
def c_f76 : LFun := ⟨8, (.seq (.sreg r_f76_0 [])
  (.seq (.sreg r_f76_1 [true, false, false, false])
  .ret)), [(.tmp 4)]⟩
def o_f76 : Nat → Nat → Nat := fun _ _ => 1
theorem c_f76_eq : lowF Tryz.prog o_f76 76 = some c_f76.raw := by kernel_rfl
theorem c_f76_ok : c_f76.code.okc = true := by kernel_rfl
/-! unicode/utf8.word[string] -/
def r_f65_0 : List SOp :=
   [.op ⟨(some 2), (.mv (.av (.int .u64 0))), none⟩]
def r_f65_1 : List SOp :=
   [.op ⟨(some 3), (.mv (.tmp 0)), none⟩,
    .op ⟨(some 4), (.idxS (.tmp 3) (.av (.int .i64 0))), none⟩,
    .op ⟨(some 5), (.conv .u64 (.tmp 4)), none⟩,
    .op ⟨(some 6), (.mv (.tmp 0)), none⟩,
    .op ⟨(some 7), (.idxS (.tmp 6) (.av (.int .i64 1))), none⟩,
    .op ⟨(some 8), (.conv .u64 (.tmp 7)), none⟩,
    .op ⟨(some 9), (.bin .shl (.tmp 8) (.av (.int .u64 8))), none⟩,
    .op ⟨(some 10), (.bin .or (.tmp 5) (.tmp 9)), none⟩,
    .op ⟨(some 11), (.mv (.tmp 0)), none⟩,
    .op ⟨(some 12), (.idxS (.tmp 11) (.av (.int .i64 2))), none⟩,
    .op ⟨(some 13), (.conv .u64 (.tmp 12)), none⟩,
    .op ⟨(some 14), (.bin .shl (.tmp 13) (.av (.int .u64 16))), none⟩,
    .op ⟨(some 15), (.bin .or (.tmp 10) (.tmp 14)), none⟩,
    .op ⟨(some 16), (.mv (.tmp 0)), none⟩,
    .op ⟨(some 17), (.idxS (.tmp 16) (.av (.int .i64 3))), none⟩,
    .op ⟨(some 18), (.conv .u64 (.tmp 17)), none⟩,
    .op ⟨(some 19), (.bin .shl (.tmp 18) (.av (.int .u64 24))), none⟩,
    .op ⟨(some 20), (.bin .or (.tmp 15) (.tmp 19)), none⟩,
    .op ⟨(some 2), (.mv (.tmp 20)), none⟩]
def r_f65_2 : List SOp :=
   [.op ⟨(some 21), (.mv (.tmp 0)), none⟩,
    .op ⟨(some 22), (.idxS (.tmp 21) (.av (.int .i64 0))), none⟩,
    .op ⟨(some 23), (.conv .u64 (.tmp 22)), none⟩,
    .op ⟨(some 24), (.mv (.tmp 0)), none⟩,
    .op ⟨(some 25), (.idxS (.tmp 24) (.av (.int .i64 1))), none⟩,
    .op ⟨(some 26), (.conv .u64 (.tmp 25)), none⟩,
    .op ⟨(some 27), (.bin .shl (.tmp 26) (.av (.int .u64 8))), none⟩,
    .op ⟨(some 28), (.bin .or (.tmp 23) (.tmp 27)), none⟩,
    .op ⟨(some 29), (.mv (.tmp 0)), none⟩,
    .op ⟨(some 30), (.idxS (.tmp 29) (.av (.int .i64 2))), none⟩,
    .op ⟨(some 31), (.conv .u64 (.tmp 30)), none⟩,
    .op ⟨(some 32), (.bin .shl (.tmp 31) (.av (.int .u64 16))), none⟩,
    .op ⟨(some 33), (.bin .or (.tmp 28) (.tmp 32)), none⟩,
    .op ⟨(some 34), (.mv (.tmp 0)), none⟩,
    .op ⟨(some 35), (.idxS (.tmp 34) (.av (.int .i64 3))), none⟩,
    .op ⟨(some 36), (.conv .u64 (.tmp 35)), none⟩,
    .op ⟨(some 37), (.bin .shl (.tmp 36) (.av (.int .u64 24))), none⟩,
    .op ⟨(some 38), (.bin .or (.tmp 33) (.tmp 37)), none⟩,
    .op ⟨(some 39), (.mv (.tmp 0)), none⟩,
    .op ⟨(some 40), (.idxS (.tmp 39) (.av (.int .i64 4))), none⟩,
    .op ⟨(some 41), (.conv .u64 (.tmp 40)), none⟩,
    .op ⟨(some 42), (.bin .shl (.tmp 41) (.av (.int .u64 32))), none⟩,
    .op ⟨(some 43), (.bin .or (.tmp 38) (.tmp 42)), none⟩,
    .op ⟨(some 44), (.mv (.tmp 0)), none⟩,
    .op ⟨(some 45), (.idxS (.tmp 44) (.av (.int .i64 5))), none⟩,
    .op ⟨(some 46), (.conv .u64 (.tmp 45)), none⟩,
    .op ⟨(some 47), (.bin .shl (.tmp 46) (.av (.int .u64 40))), none⟩,
    .op ⟨(some 48), (.bin .or (.tmp 43) (.tmp 47)), none⟩,
    .op ⟨(some 49), (.mv (.tmp 0)), none⟩,
    .op ⟨(some 50), (.idxS (.tmp 49) (.av (.int .i64 6))), none⟩,
    .op ⟨(some 51), (.conv .u64 (.tmp 50)), none⟩,
    .op ⟨(some 52), (.bin .shl (.tmp 51) (.av (.int .u64 48))), none⟩,
    .op ⟨(some 53), (.bin .or (.tmp 48) (.tmp 52)), none⟩,
    .op ⟨(some 54), (.mv (.tmp 0)), none⟩,
    .op ⟨(some 55), (.idxS (.tmp 54) (.av (.int .i64 7))), none⟩,
    .op ⟨(some 56), (.conv .u64 (.tmp 55)), none⟩,
    .op ⟨(some 57), (.bin .shl (.tmp 56) (.av (.int .u64 56))), none⟩,
    .op ⟨(some 58), (.bin .or (.tmp 53) (.tmp 57)), none⟩,
    .op ⟨(some 2), (.mv (.tmp 58)), none⟩]
def c_f65 : LFun := ⟨59, (.seq (.sreg r_f65_0 [])
  (.seq (.cond (.av (.bool false)) (.seq (.sdreg r_f65_1 [.pure, (.read 0 0), .pure, .pure, (.read 0 0), .pure, .pure, .pure, .pure, (.read 0 0), .pure, .pure, .pure, .pure, (.read 0 0), .pure, .pure] [true, false, false, false, false, false, false, false, false, false, false, false, false, false, false, false, false, false, false])
  .ret)
  .skip)
  (.seq (.sdreg r_f65_2 [.pure, (.read 0 0), .pure, .pure, (.read 0 0), .pure, .pure, .pure, .pure, (.read 0 0), .pure, .pure, .pure, .pure, (.read 0 0), .pure, .pure, .pure, .pure, (.read 0 0), .pure, .pure, .pure, .pure, (.read 0 0), .pure, .pure, .pure, .pure, (.read 0 0), .pure, .pure, .pure, .pure, (.read 0 0), .pure, .pure] [true, false, false, false, false, false, false, false, false, false, false, false, false, false, false, false, false, false, false, false, false, false, false, false, false, false, false, false, false, false, false, false, false, false, false, false, false, false, false])
  .ret))), [(.tmp 2)]⟩
def o_f65 : Nat → Nat → Nat := fun _ _ => 1
theorem c_f65_eq : lowF Tryz.prog o_f65 65 = some c_f65.raw := by kernel_rfl
theorem c_f65_ok : c_f65.code.okc = true := by kernel_rfl
/-! strings.indexFunc -/
def r_f66_0 : List SOp :=
   [.op ⟨(some 6), (.mv (.av (.int .i64 0))), none⟩]
def r_f66_1 : List SOp :=
   [.op ⟨(some 9), (.mv (.tmp 0)), none⟩,
    .op ⟨(some 10), (.rangeS (.tmp 9)), none⟩]
def r_f66_2 : List SOp :=
   [.op ⟨(some 11), (.nextS (.tmp 10)), none⟩,
    .op ⟨(some 12), (.extract (.tmp 11) 0), none⟩]
def r_f66_3 : List SOp :=
   [.op ⟨(some 13), (.extract (.tmp 11) 1), none⟩,
    .op ⟨(some 14), (.extract (.tmp 11) 2), none⟩,
    .op ⟨(some 7), (.mv (.tmp 13)), none⟩,
    .op ⟨(some 8), (.mv (.tmp 14)), none⟩]
def r_f66_4 : List SOp :=
   [.op ⟨(some 15), (.mv (.tmp 1)), none⟩,
    .op ⟨(some 16), (.mv (.tmp 8)), none⟩,
    .op ⟨(some 17), (.callv (.tmp 15) [(.tmp 16)]), none⟩,
    .op ⟨(some 18), (.mv (.tmp 2)), none⟩,
    .op ⟨(some 19), (.eqk false .bool (.tmp 17) (.tmp 18)), none⟩]
def r_f66_5 : List SOp :=
   [.op ⟨(some 20), (.mv (.tmp 7)), none⟩,
    .op ⟨(some 6), (.mv (.tmp 20)), none⟩]
def r_f66_6 : List SOp :=
   [.op ⟨(some 6), (.mv (.av (.int .i64 (-1)))), none⟩]
def c_f66 : LFun := ⟨21, (.seq (.sreg r_f66_0 [])
  (.seq (.seq (.sreg r_f66_1 [true, false])
  (.block 0 (.loop (.seq (.sreg r_f66_2 [])
  (.seq (.cond (.tmp 12) .skip
  (.exit 0))
  (.block 1 (.seq (.sreg r_f66_3 [true, true, false, false])
  (.seq (.sreg r_f66_4 [true, false, false, false, false])
  (.cond (.tmp 19) (.seq (.sreg r_f66_5 [true, false])
  .ret)
  .skip)))))))))
  (.seq (.sreg r_f66_6 [])
  .ret))), [(.tmp 6)]⟩
def o_f66 : Nat → Nat → Nat := fun _ _ => 1
theorem c_f66_eq : lowF Tryz.prog o_f66 66 = some c_f66.raw := by kernel_rfl
theorem c_f66_ok : c_f66.code.okc = true := by kernel_rfl
/-! strconv.ParseInt -/
def r_f67_0 : List SOp :=
   [.op ⟨(some 6), (.mv (.av (.int .i64 0))), none⟩,
    .op ⟨(some 7), (.mv (.av .nilif)), none⟩]
def r_f67_1 : List SOp :=
   [.op ⟨(some 10), (.mv (.tmp 0)), none⟩,
    .op ⟨(some 11), (.mv (.tmp 1)), none⟩,
    .op ⟨(some 12), (.mv (.tmp 2)), none⟩,
    .op ⟨(some 13), (.call 98 [(.tmp 10), (.tmp 11), (.tmp 12)]), none⟩,
    .op ⟨(some 9), (.mv (.tmp 13)), none⟩,
    .op ⟨(some 14), (.extract (.tmp 9) 0), none⟩,
    .op ⟨(some 15), (.extract (.tmp 9) 1), none⟩,
    .op ⟨(some 8), (.mv (.tmp 14)), none⟩,
    .op ⟨(some 7), (.mv (.tmp 15)), none⟩]
def r_f67_2 : List SOp :=
   [.op ⟨(some 16), (.mv (.tmp 7)), none⟩,
    .op ⟨(some 17), (.eqk true .iface (.tmp 16) (.av .nilif)), none⟩]
def r_f67_3 : List SOp :=
   [.op ⟨(some 18), (.mv (.tmp 8)), none⟩,
    .op ⟨(some 19), (.mv (.tmp 0)), none⟩,
    .op ⟨(some 20), (.mv (.tmp 1)), none⟩,
    .op ⟨(some 21), (.mv (.tmp 2)), none⟩,
    .op ⟨(some 22), (.mv (.tmp 7)), none⟩,
    .op ⟨(some 23), (.call 99 [(.av (.str [80, 97, 114, 115, 101, 73, 110, 116])), (.tmp 19), (.tmp 20), (.tmp 21), (.tmp 22)]), none⟩,
    .op ⟨(some 6), (.mv (.tmp 18)), none⟩,
    .op ⟨(some 7), (.mv (.tmp 23)), none⟩]
def r_f67_4 : List SOp :=
   [.op ⟨(some 24), (.mv (.tmp 8)), none⟩,
    .op ⟨(some 6), (.mv (.tmp 24)), none⟩,
    .op ⟨(some 7), (.mv (.av .nilif)), none⟩]
def c_f67 : LFun := ⟨25, (.seq (.sreg r_f67_0 [])
  (.seq (.sreg r_f67_1 [true, true, false, false, false, false, false, false, false])
  (.seq (.seq (.sreg r_f67_2 [true, false])
  (.cond (.tmp 17) (.seq (.sreg r_f67_3 [true, true, false, false, false, false, false, false])
  .ret)
  .skip))
  (.seq (.sreg r_f67_4 [true, true, false])
  .ret)))), [(.tmp 6), (.tmp 7)]⟩
def o_f67 : Nat → Nat → Nat := fun _ _ => 1
theorem c_f67_eq : lowF Tryz.prog o_f67 67 = some c_f67.raw := by kernel_rfl
theorem c_f67_ok : c_f67.code.okc = true := by kernel_rfl
/-! strconv.FormatInt -/
def r_f7_0 : List SOp :=
   [.op ⟨(some 4), (.mv (.av (.str []))), none⟩]
def r_f7_1 : List SOp :=
   [.op ⟨(some 5), (.mv (.tmp 0)), none⟩,
    .op ⟨(some 6), (.mv (.tmp 1)), none⟩,
    .op ⟨(some 7), (.call 26 [(.tmp 5), (.tmp 6)]), none⟩,
    .op ⟨(some 4), (.mv (.tmp 7)), none⟩]
def c_f7 : LFun := ⟨8, (.seq (.sreg r_f7_0 [])
  (.seq (.sreg r_f7_1 [true, false, false, false])
  .ret)), [(.tmp 4)]⟩
def o_f7 : Nat → Nat → Nat := fun _ _ => 1
theorem c_f7_eq : lowF Tryz.prog o_f7 7 = some c_f7.raw := by kernel_rfl
theorem c_f7_ok : c_f7.code.okc = true := by kernel_rfl
/-! castellan/dn.Parse -/
def r_f68_0 : List SOp :=
   [.op ⟨(some 2), (.mv (.av (.sl [] 0 (some 0)))), none⟩,
    .op ⟨(some 3), (.mv (.av (.int .i64 0))), none⟩]
def r_f68_1 : List SOp :=
   [.op ⟨(some 10), (.mv (.tmp 0)), none⟩,
    .op ⟨(some 11), (.len true (.tmp 10)), none⟩,
    .op ⟨(some 12), (.bin .gtr (.tmp 11) (.av (.int .i64 4096))), none⟩]
def r_f68_2 : List SOp :=
   [.op ⟨(some 2), (.mv (.av (.sl [] 0 (some 0)))), none⟩,
    .op ⟨(some 3), (.mv (.av (.int .i64 5))), none⟩]
def r_f68_3 : List SOp :=
   [.op ⟨(some 13), (.mv (.tmp 0)), none⟩,
    .op ⟨(some 14), (.bin .eql (.tmp 13) (.av (.str []))), none⟩]
def r_f68_4 : List SOp :=
   [.op ⟨(some 2), (.mv (.av (.sl [] 0 (some 0)))), none⟩,
    .op ⟨(some 3), (.mv (.av (.int .i64 0))), none⟩]
def r_f68_5 : List SOp :=
   [.op ⟨(some 4), (.mv (.av (.sl [] 0 (some 0)))), none⟩]
def r_f68_6 : List SOp :=
   [.op ⟨(some 5), (.mv (.av (.sl [] 0 (some 0)))), none⟩]
def r_f68_7 : List SOp :=
   [.op ⟨(some 15), (.mv (.tmp 4)), none⟩,
    .op ⟨(some 16), (.len false (.tmp 15)), none⟩,
    .op ⟨(some 17), (.bin .eql (.tmp 16) (.av (.int .i64 32))), none⟩,
    .op ⟨(some 18), (.mv (.tmp 17)), none⟩,
    .grp none 18 false
      [.op ⟨(some 19), (.mv (.tmp 5)), (some (18, false))⟩,
      .op ⟨(some 20), (.len false (.tmp 19)), (some (18, false))⟩,
      .op ⟨(some 21), (.bin .eql (.tmp 20) (.av (.int .i64 8))), (some (18, false))⟩]
      22 (.tmp 21)]
def r_f68_8 : List SOp :=
   [.op ⟨(some 2), (.mv (.av (.sl [] 0 (some 0)))), none⟩,
    .op ⟨(some 3), (.mv (.av (.int .i64 9))), none⟩]
def r_f68_9 : List SOp :=
   [.op ⟨(some 24), (.mv (.tmp 0)), none⟩,
    .op ⟨(some 25), (.call 100 [(.tmp 24), (.av (.str [61]))]), none⟩,
    .op ⟨(some 23), (.mv (.tmp 25)), none⟩,
    .op ⟨(some 26), (.extract (.tmp 23) 0), none⟩,
    .op ⟨(some 27), (.extract (.tmp 23) 1), none⟩,
    .op ⟨(some 28), (.extract (.tmp 23) 2), none⟩,
    .op ⟨(some 6), (.mv (.tmp 26)), none⟩,
    .op ⟨(some 7), (.mv (.tmp 27)), none⟩,
    .op ⟨(some 8), (.mv (.tmp 28)), none⟩]
def r_f68_10 : List SOp :=
   [.op ⟨(some 29), (.mv (.tmp 8)), none⟩,
    .op ⟨(some 30), (.un .not (.tmp 29)), none⟩,
    .op ⟨(some 31), (.mv (.tmp 30)), none⟩,
    .op ⟨(some 32), (.mv (.tmp 6)), (some (31, false))⟩,
    .op ⟨(some 33), (.call 101 [(.tmp 32)]), (some (31, false))⟩,
    .op ⟨(some 34), (.un .not (.tmp 33)), (some (31, false))⟩,
    .op ⟨(some 35), (.pick (.tmp 31) (.av (.bool true)) (.tmp 34)), none⟩]
def r_f68_11 : List SOp :=
   [.op ⟨(some 2), (.mv (.av (.sl [] 0 (some 0)))), none⟩,
    .op ⟨(some 3), (.mv (.av (.int .i64 4))), none⟩]
def r_f68_12 : List SOp :=
   [.op ⟨(some 36), (.mv (.tmp 5)), none⟩,
    .op ⟨(some 37), (.mv (.tmp 6)), none⟩,
    .op ⟨(some 38), (.call 102 [(.tmp 36), (.tmp 37)]), none⟩]
def r_f68_13 : List SOp :=
   [.op ⟨(some 2), (.mv (.av (.sl [] 0 (some 0)))), none⟩,
    .op ⟨(some 3), (.mv (.av (.int .i64 21))), none⟩]
def r_f68_14 : List SOp :=
   [.op ⟨(some 40), (.mv (.tmp 7)), none⟩,
    .op ⟨(some 41), (.call 103 [(.tmp 40)]), none⟩,
    .op ⟨(some 39), (.mv (.tmp 41)), none⟩,
    .op ⟨(some 42), (.extract (.tmp 39) 0), none⟩,
    .op ⟨(some 43), (.extract (.tmp 39) 1), none⟩,
    .op ⟨(some 44), (.extract (.tmp 39) 2), none⟩,
    .op ⟨(some 9), (.mv (.tmp 42)), none⟩,
    .op ⟨(some 7), (.mv (.tmp 43)), none⟩,
    .op ⟨(some 8), (.mv (.tmp 44)), none⟩]
def r_f68_15 : List SOp :=
   [.op ⟨(some 45), (.mv (.tmp 8)), none⟩,
    .op ⟨(some 46), (.un .not (.tmp 45)), none⟩]
def r_f68_16 : List SOp :=
   [.op ⟨(some 2), (.mv (.av (.sl [] 0 (some 0)))), none⟩,
    .op ⟨(some 3), (.mv (.av (.int .i64 4))), none⟩]
def r_f68_17 : List SOp :=
   [.op ⟨(some 47), (.mv (.tmp 5)), none⟩,
    .op ⟨(some 48), (.mv (.tmp 6)), none⟩,
    .op ⟨(some 49), (.mv (.tmp 9)), none⟩,
    .op ⟨(some 50), (.build [(.str []), (.str [])] [(0, 1, (.tmp 48)), (1, 1, (.tmp 49))]), none⟩,
    .op ⟨(some 51), (.bslice false 2 1 [(.str []), (.str [])] [(0, 2, (.tmp 50))]), none⟩,
    .op ⟨(some 52), (.app 1 2 32 [(.str []), (.str [])] (.tmp 47) (.tmp 51)), none⟩,
    .op ⟨(some 5), (.mv (.tmp 52)), none⟩]
def r_f68_18 : List SOp :=
   [.op ⟨(some 53), (.mv (.tmp 7)), none⟩,
    .op ⟨(some 54), (.bin .eql (.tmp 53) (.av (.str []))), none⟩]
def r_f68_19 : List SOp :=
   [.op ⟨(some 55), (.mv (.tmp 4)), none⟩,
    .op ⟨(some 56), (.mv (.tmp 5)), none⟩,
    .op ⟨(some 57), (.bslice false 1 1 [(.sl [] 0 (some 0))] [(0, 1, (.tmp 56))]), none⟩,
    .op ⟨(some 58), (.app 1 1 24 [(.sl [] 0 (some 0))] (.tmp 55) (.tmp 57)), none⟩,
    .op ⟨(some 2), (.mv (.tmp 58)), none⟩,
    .op ⟨(some 3), (.mv (.av (.int .i64 0))), none⟩]
def r_f68_20 : List SOp :=
   [.op ⟨(some 59), (.mv (.tmp 7)), none⟩,
    .op ⟨(some 60), (.idxS (.tmp 59) (.av (.int .i64 0))), none⟩,
    .op ⟨(some 61), (.bin .eql (.tmp 60) (.av (.int .u8 44))), none⟩]
def r_f68_21 : List SOp :=
   [.op ⟨(some 62), (.mv (.tmp 4)), none⟩,
    .op ⟨(some 63), (.mv (.tmp 5)), none⟩,
    .op ⟨(some 64), (.bslice false 1 1 [(.sl [] 0 (some 0))] [(0, 1, (.tmp 63))]), none⟩,
    .op ⟨(some 65), (.app 1 1 24 [(.sl [] 0 (some 0))] (.tmp 62) (.tmp 64)), none⟩,
    .op ⟨(some 4), (.mv (.tmp 65)), none⟩,
    .op ⟨(some 5), (.mv (.av (.sl [] 0 (some 0)))), none⟩]
def r_f68_22 : List SOp :=
   [.op ⟨(some 66), (.mv (.tmp 7)), none⟩,
    .op ⟨(some 67), (.slS (.tmp 66) (some (.av (.int .i64 1))) none), none⟩,
    .op ⟨(some 0), (.mv (.tmp 67)), none⟩]
def c_f68 : LFun := ⟨68, (.seq (.sreg r_f68_0 [])
  (.seq (.seq (.sreg r_f68_1 [true, false, false])
  (.cond (.tmp 12) (.seq (.sreg r_f68_2 [])
  .ret)
  .skip))
  (.seq (.seq (.sreg r_f68_3 [true, false])
  (.cond (.tmp 14) (.seq (.sreg r_f68_4 [])
  .ret)
  .skip))
  (.seq (.sreg r_f68_5 [])
  (.seq (.sreg r_f68_6 [])
  (.block 0 (.loop (.block 1 (.seq (.seq (.sreg r_f68_7 [true, false, false, false, false])
  (.cond (.tmp 22) (.seq (.sreg r_f68_8 [])
  .ret)
  .skip))
  (.seq (.sreg r_f68_9 [true, true, true, false, false, false, false, false, false])
  (.seq (.seq (.sreg r_f68_10 [true, false, false, false, false, false, false])
  (.cond (.tmp 35) (.seq (.sreg r_f68_11 [])
  .ret)
  .skip))
  (.seq (.seq (.sreg r_f68_12 [true, false, false])
  (.cond (.tmp 38) (.seq (.sreg r_f68_13 [])
  .ret)
  .skip))
  (.seq (.sreg r_f68_14 [true, true, true, false, false, false, false, false, false])
  (.seq (.seq (.sreg r_f68_15 [true, false])
  (.cond (.tmp 46) (.seq (.sreg r_f68_16 [])
  .ret)
  .skip))
  (.seq (.sreg r_f68_17 [true, false, false, false, false, false, false])
  (.seq (.seq (.sreg r_f68_18 [true, false])
  (.cond (.tmp 54) (.seq (.sreg r_f68_19 [true, true, false, false, false, false])
  .ret)
  .skip))
  (.seq (.seq (.sreg r_f68_20 [true, false, false])
  (.cond (.tmp 61) (.sreg r_f68_21 [true, true, false, false, false, false])
  .skip))
  (.sreg r_f68_22 [true, false, false])))))))))))))))))), [(.tmp 2), (.tmp 3)]⟩
def o_f68 : Nat → Nat → Nat := fun _ _ => 1
theorem c_f68_eq : lowF Tryz.prog o_f68 68 = some c_f68.raw := by kernel_rfl
theorem c_f68_ok : c_f68.code.okc = true := by kernel_rfl
/-! castellan/dn.Norm -/
def r_f69_0 : List SOp :=
   [.op ⟨(some 2), (.mv (.av (.str []))), none⟩,
    .op ⟨(some 3), (.mv (.av (.int .i64 0))), none⟩]
def r_f69_1 : List SOp :=
   [.op ⟨(some 7), (.mv (.tmp 0)), none⟩,
    .op ⟨(some 8), (.call 104 [(.tmp 7)]), none⟩,
    .op ⟨(some 6), (.mv (.tmp 8)), none⟩,
    .op ⟨(some 9), (.extract (.tmp 6) 0), none⟩,
    .op ⟨(some 10), (.extract (.tmp 6) 1), none⟩,
    .op ⟨(some 4), (.mv (.tmp 9)), none⟩,
    .op ⟨(some 5), (.mv (.tmp 10)), none⟩]
def r_f69_2 : List SOp :=
   [.op ⟨(some 11), (.mv (.tmp 5)), none⟩,
    .op ⟨(some 12), (.bin .neq (.tmp 11) (.av (.int .i64 0))), none⟩]
def r_f69_3 : List SOp :=
   [.op ⟨(some 13), (.mv (.tmp 5)), none⟩,
    .op ⟨(some 2), (.mv (.av (.str []))), none⟩,
    .op ⟨(some 3), (.mv (.tmp 13)), none⟩]
def r_f69_4 : List SOp :=
   [.op ⟨(some 14), (.mv (.tmp 0)), none⟩,
    .op ⟨(some 15), (.call 105 [(.tmp 14), (.av (.bool true))]), none⟩,
    .op ⟨(some 2), (.mv (.tmp 15)), none⟩,
    .op ⟨(some 3), (.mv (.av (.int .i64 0))), none⟩]
def c_f69 : LFun := ⟨16, (.seq (.sreg r_f69_0 [])
  (.seq (.seq (.sreg r_f69_1 [true, false, false, false, false, false, false])
  (.seq (.sreg r_f69_2 [true, false])
  (.cond (.tmp 12) (.seq (.sreg r_f69_3 [true, true, false])
  .ret)
  .skip)))
  (.seq (.sreg r_f69_4 [true, true, false, false])
  .ret))), [(.tmp 2), (.tmp 3)]⟩
def o_f69 : Nat → Nat → Nat := fun _ _ => 1
theorem c_f69_eq : lowF Tryz.prog o_f69 69 = some c_f69.raw := by kernel_rfl
theorem c_f69_ok : c_f69.code.okc = true := by kernel_rfl
/-! castellan/syntax.moment$1 -/
def r_f70_0 : List SOp :=
   [.op ⟨(some 3), (.mv (.av (.int .i64 0))), none⟩]
def r_f70_1 : List SOp :=
   [.op ⟨(some 4), (.load false 1 (.tmp 1)), none⟩,
    .op ⟨(some 5), (.mv (.tmp 0)), none⟩,
    .op ⟨(some 6), (.idxS (.tmp 4) (.tmp 5)), none⟩,
    .op ⟨(some 7), (.bin .sub (.tmp 6) (.av (.int .u8 48))), none⟩,
    .op ⟨(some 8), (.conv .i64 (.tmp 7)), none⟩,
    .op ⟨(some 9), (.bin .mul (.tmp 8) (.av (.int .i64 10))), none⟩,
    .op ⟨(some 10), (.load false 1 (.tmp 1)), none⟩,
    .op ⟨(some 11), (.mv (.tmp 0)), none⟩,
    .op ⟨(some 12), (.bin .add (.tmp 11) (.av (.int .i64 1))), none⟩,
    .op ⟨(some 13), (.idxS (.tmp 10) (.tmp 12)), none⟩,
    .op ⟨(some 14), (.bin .sub (.tmp 13) (.av (.int .u8 48))), none⟩,
    .op ⟨(some 15), (.conv .i64 (.tmp 14)), none⟩,
    .op ⟨(some 16), (.bin .add (.tmp 9) (.tmp 15)), none⟩,
    .op ⟨(some 3), (.mv (.tmp 16)), none⟩]
def c_f70 : LFun := ⟨17, (.seq (.sreg r_f70_0 [])
  (.seq (.sdreg r_f70_1 [(.read 0 0), .pure, (.read 0 0), .pure, .pure, .pure, (.read 0 0), .pure, .pure, (.read 0 0), .pure, .pure] [true, false, false, false, false, false, false, false, false, false, false, false, false, false])
  .ret)), [(.tmp 3)]⟩
def o_f70 : Nat → Nat → Nat := fun _ _ => 1
theorem c_f70_eq : lowF Tryz.prog o_f70 70 = some c_f70.raw := by kernel_rfl
theorem c_f70_ok : c_f70.code.okc = true := by kernel_rfl
/-! cmp.isNaN[int64] -/
def r_f71_0 : List SOp :=
   [.op ⟨(some 2), (.mv (.av (.bool false))), none⟩]
def r_f71_1 : List SOp :=
   [.op ⟨(some 3), (.mv (.tmp 0)), none⟩,
    .op ⟨(some 4), (.mv (.tmp 0)), none⟩,
    .op ⟨(some 5), (.bin .neq (.tmp 3) (.tmp 4)), none⟩,
    .op ⟨(some 2), (.mv (.tmp 5)), none⟩]
def c_f71 : LFun := ⟨6, (.seq (.sreg r_f71_0 [])
  (.seq (.sreg r_f71_1 [true, false, false, false])
  .ret)), [(.tmp 2)]⟩
def o_f71 : Nat → Nat → Nat := fun _ _ => 1
theorem c_f71_eq : lowF Tryz.prog o_f71 71 = some c_f71.raw := by kernel_rfl
theorem c_f71_ok : c_f71.code.okc = true := by kernel_rfl
/-! internal/bytealg.CompareString -/
def r_f72_0 : List SOp :=
   [.op ⟨(some 4), (.mv (.av (.int .i64 0))), none⟩]
def r_f72_1 : List SOp :=
   [.op ⟨(some 5), (.mv (.tmp 0)), none⟩,
    .op ⟨(some 6), (.mv (.tmp 1)), none⟩,
    .op ⟨(some 7), (.call 106 [(.tmp 5), (.tmp 6)]), none⟩,
    .op ⟨(some 4), (.mv (.tmp 7)), none⟩]
def c_f72 : LFun := ⟨8, (.seq (.sreg r_f72_0 [])
  (.seq (.sreg r_f72_1 [true, false, false, false])
  .ret)), [(.tmp 4)]⟩
def o_f72 : Nat → Nat → Nat := fun _ _ => 1
theorem c_f72_eq : lowF Tryz.prog o_f72 72 = some c_f72.raw := by kernel_rfl
theorem c_f72_ok : c_f72.code.okc = true := by kernel_rfl
/-! (*castellan/filt.checker).check -/
def r_f107_0 : List SOp :=
   [.op ⟨(some 4), (.box (.tmp 1)), none⟩,
    .op ⟨(some 6), (.mv (.av (.int .i64 0))), none⟩]
def r_f107_1 : List SOp :=
   [.op ⟨(some 10), (.mv (.tmp 2)), none⟩,
    .op ⟨(some 11), (.bin .gtr (.tmp 10) (.av (.int .i64 64))), none⟩]
def r_f107_2 : List SOp :=
   [.op ⟨(some 6), (.mv (.av (.int .i64 6))), none⟩]
def r_f107_3 : List SOp :=
   [.op ⟨(some 12), (.mv (.tmp 0)), none⟩,
    .op ⟨(some 13), (.nilchk (.tmp 12)), none⟩,
    .op ⟨(some 14), (.faddr 0 (.tmp 13)), none⟩,
    .op ⟨(some 15), (.load false 1 (.tmp 14)), none⟩,
    .op ⟨(some 16), (.bin .add (.tmp 15) (.av (.int .i64 1))), none⟩,
    .op ⟨(some 17), (.nilchk (.tmp 12)), none⟩,
    .op ⟨(some 18), (.faddr 0 (.tmp 17)), none⟩,
    .op ⟨none, (.store 1 (.tmp 18) (.tmp 16)), none⟩]
def r_f107_4 : List SOp :=
   [.op ⟨(some 19), (.mv (.tmp 0)), none⟩,
    .op ⟨(some 20), (.nilchk (.tmp 19)), none⟩,
    .op ⟨(some 21), (.faddr 0 (.tmp 20)), none⟩,
    .op ⟨(some 22), (.load false 1 (.tmp 21)), none⟩,
    .op ⟨(some 23), (.bin .gtr (.tmp 22) (.av (.int .i64 1000))), none⟩]
def r_f107_5 : List SOp :=
   [.op ⟨(some 6), (.mv (.av (.int .i64 9))), none⟩]
def r_f107_6 : List SOp :=
   [.op ⟨(some 25), (.faddr 0 (.tmp 4)), none⟩,
    .op ⟨(some 26), (.load false 1 (.tmp 25)), none⟩,
    .op ⟨(some 27), (.bin .lss (.tmp 26) (.av (.int .i64 0))), none⟩,
    .op ⟨(some 28), (.mv (.tmp 27)), none⟩,
    .grp none 28 false
      [.op ⟨(some 29), (.faddr 0 (.tmp 4)), (some (28, false))⟩,
      .op ⟨(some 30), (.load false 1 (.tmp 29)), (some (28, false))⟩,
      .op ⟨(some 31), (.bin .gtr (.tmp 30) (.av (.int .i64 8))), (some (28, false))⟩]
      32 (.tmp 31),
    .op ⟨(some 24), (.mv (.tmp 32)), none⟩]
def r_f107_7 : List SOp :=
   [.op ⟨(some 6), (.mv (.av (.int .i64 24))), none⟩]
def r_f107_8 : List SOp :=
   [.op ⟨(some 34), (.faddr 0 (.tmp 4)), none⟩,
    .op ⟨(some 35), (.load false 1 (.tmp 34)), none⟩,
    .op ⟨(some 36), (.bin .eql (.tmp 35) (.av (.int .i64 2))), none⟩,
    .op ⟨(some 37), (.mv (.tmp 36)), none⟩,
    .grp none 37 true
      [.op ⟨(some 38), (.faddr 4 (.tmp 4)), (some (37, true))⟩,
      .op ⟨(some 39), (.load false 1 (.tmp 38)), (some (37, true))⟩,
      .op ⟨(some 40), (.len false (.tmp 39)), (some (37, true))⟩,
      .op ⟨(some 41), (.bin .neq (.tmp 40) (.av (.int .i64 1))), (some (37, true))⟩]
      42 (.tmp 41),
    .op ⟨(some 33), (.mv (.tmp 42)), none⟩]
def r_f107_9 : List SOp :=
   [.op ⟨(some 6), (.mv (.av (.int .i64 2))), none⟩]
def r_f107_10 : List SOp :=
   [.op ⟨(some 44), (.faddr 0 (.tmp 4)), none⟩,
    .op ⟨(some 45), (.load false 1 (.tmp 44)), none⟩,
    .op ⟨(some 46), (.bin .leq (.tmp 45) (.av (.int .i64 2))), none⟩,
    .op ⟨(some 43), (.mv (.tmp 46)), none⟩]
def r_f107_11 : List SOp :=
   [.op ⟨(some 47), (.faddr 4 (.tmp 4)), none⟩,
    .op ⟨(some 48), (.load false 1 (.tmp 47)), none⟩,
    .op ⟨(some 49), (.len false (.tmp 48)), none⟩,
    .op ⟨(some 50), (.mv (.av (.int .i64 0))), none⟩]
def r_f107_12 : List SOp :=
   [.op ⟨(some 51), (.bin .lss (.tmp 50) (.tmp 49)), none⟩]
def r_f107_13 : List SOp :=
   [.op ⟨(some 52), (.iaddr 5 (.tmp 48) (.tmp 50)), none⟩,
    .op ⟨(some 53), (.load true 5 (.tmp 52)), none⟩,
    .op ⟨(some 8), (.alloc [(.int .i64 0), (.str []), (.str []), (.sl [] 0 (some 0)), (.sl [] 0 (some 0))]), none⟩,
    .op ⟨none, (.store 5 (.tmp 8) (.tmp 53)), none⟩]
def r_f107_14 : List SOp :=
   [.op ⟨(some 54), (.mv (.tmp 0)), none⟩,
    .op ⟨(some 55), (.load true 5 (.tmp 8)), none⟩,
    .op ⟨(some 56), (.mv (.tmp 2)), none⟩,
    .op ⟨(some 57), (.bin .add (.tmp 56) (.av (.int .i64 1))), none⟩,
    .op ⟨(some 58), (.call 107 [(.tmp 54), (.tmp 55), (.tmp 57)]), none⟩,
    .op ⟨(some 9), (.mv (.tmp 58)), none⟩]
def r_f107_15 : List SOp :=
   [.op ⟨(some 59), (.mv (.tmp 9)), none⟩,
    .op ⟨(some 60), (.bin .neq (.tmp 59) (.av (.int .i64 0))), none⟩]
def r_f107_16 : List SOp :=
   [.op ⟨(some 61), (.mv (.tmp 9)), none⟩,
    .op ⟨(some 6), (.mv (.tmp 61)), none⟩]
def r_f107_17 : List SOp :=
   [.op ⟨(some 62), (.bin .add (.tmp 50) (.av (.int .i64 1))), none⟩,
    .op ⟨(some 50), (.mv (.tmp 62)), none⟩]
def r_f107_18 : List SOp :=
   [.op ⟨(some 64), (.faddr 1 (.tmp 4)), none⟩,
    .op ⟨(some 65), (.load false 1 (.tmp 64)), none⟩,
    .op ⟨(some 66), (.call 101 [(.tmp 65)]), none⟩,
    .op ⟨(some 67), (.un .not (.tmp 66)), none⟩,
    .op ⟨(some 63), (.mv (.tmp 67)), none⟩]
def r_f107_19 : List SOp :=
   [.op ⟨(some 6), (.mv (.av (.int .i64 20))), none⟩]
def r_f107_20 : List SOp :=
   [.op ⟨(some 69), (.faddr 0 (.tmp 4)), none⟩,
    .op ⟨(some 70), (.load false 1 (.tmp 69)), none⟩,
    .op ⟨(some 71), (.bin .eql (.tmp 70) (.av (.int .i64 4))), none⟩,
    .op ⟨(some 72), (.mv (.tmp 71)), none⟩,
    .op ⟨(some 73), (.faddr 3 (.tmp 4)), (some (72, true))⟩,
    .op ⟨(some 74), (.load false 1 (.tmp 73)), (some (72, true))⟩,
    .op ⟨(some 75), (.call 139 [(.tmp 74)]), (some (72, true))⟩,
    .op ⟨(some 76), (.un .not (.tmp 75)), (some (72, true))⟩,
    .op ⟨(some 77), (.pick (.tmp 72) (.tmp 76) (.av (.bool false))), none⟩,
    .op ⟨(some 68), (.mv (.tmp 77)), none⟩]
def r_f107_21 : List SOp :=
   [.op ⟨(some 6), (.mv (.av (.int .i64 4))), none⟩]
def r_f107_22 : List SOp :=
   [.op ⟨(some 6), (.mv (.av (.int .i64 0))), none⟩]
def c_f107 : LFun := ⟨78, (.seq (.sreg r_f107_0 [])
  (.seq (.seq (.sreg r_f107_1 [true, false])
  (.cond (.tmp 11) (.seq (.sreg r_f107_2 [])
  .ret)
  .skip))
  (.seq (.seq (.sreg r_f107_3 [false, false, false, false, false, false, false])
  (.seq (.sreg r_f107_4 [true, false, false, false, false])
  (.cond (.tmp 23) (.seq (.sreg r_f107_5 [])
  .ret)
  .skip)))
  (.seq (.block 0 (.seq (.sreg r_f107_6 [true, false, false, false, false, false])
  (.cond (.tmp 24) (.seq (.sreg r_f107_7 [])
  .ret)
  (.seq (.sreg r_f107_8 [true, false, false, false, false, false])
  (.cond (.tmp 33) (.seq (.sreg r_f107_9 [])
  .ret)
  (.seq (.sreg r_f107_10 [true, false, false, false])
  (.cond (.tmp 43) (.seq (.sreg r_f107_11 [true, true, true, false])
  (.block 1 (.loop (.seq (.sreg r_f107_12 [])
  (.seq (.cond (.tmp 51) .skip
  (.exit 1))
  (.seq (.block 2 (.seq (.sreg r_f107_13 [true, false, false])
  (.seq (.sreg r_f107_14 [true, false, false, false, false, false])
  (.seq (.sreg r_f107_15 [true, false])
  (.cond (.tmp 60) (.seq (.sreg r_f107_16 [true, false])
  .ret)
  .skip)))))
  (.sreg r_f107_17 [true, false])))))))
  (.seq (.sreg r_f107_18 [true, false, false, false, false])
  (.cond (.tmp 63) (.seq (.sreg r_f107_19 [])
  .ret)
  (.seq (.sreg r_f107_20 [true, false, false, false, false, false, false, false, false, false])
  (.cond (.tmp 68) (.seq (.sreg r_f107_21 [])
  .ret)
  .skip)))))))))))
  (.seq (.sreg r_f107_22 [])
  .ret))))), [(.tmp 6)]⟩
def o_f107 : Nat → Nat → Nat := fun _ _ => 1
theorem c_f107_eq : lowF Tryz.prog o_f107 107 = some c_f107.raw := by kernel_rfl
theorem c_f107_ok : c_f107.code.okc = true := by kernel_rfl
/-! internal/stringslite.Index -/
def r_f108_0 : List SOp :=
   [.op ⟨(some 4), (.mv (.av (.int .i64 0))), none⟩]
def r_f108_1 : List SOp :=
   [.op ⟨(some 14), (.mv (.tmp 1)), none⟩,
    .op ⟨(some 15), (.len true (.tmp 14)), none⟩,
    .op ⟨(some 5), (.mv (.tmp 15)), none⟩]
def r_f108_2 : List SOp :=
   [.op ⟨(some 17), (.mv (.tmp 5)), none⟩,
    .op ⟨(some 18), (.bin .eql (.tmp 17) (.av (.int .i64 0))), none⟩,
    .op ⟨(some 19), (.mv (.tmp 18)), none⟩,
    .grp none 19 false
      [.op ⟨(some 20), (.mv (.tmp 1)), (some (19, false))⟩,
      .op ⟨(some 21), (.mv (.tmp 0)), (some (19, false))⟩,
      .op ⟨(some 22), (.bin .eql (.tmp 20) (.tmp 21)), (some (19, false))⟩]
      23 (.tmp 22),
    .op ⟨(some 16), (.mv (.tmp 23)), none⟩]
def r_f108_3 : List SOp :=
   [.op ⟨(some 4), (.mv (.av (.int .i64 0))), none⟩]
def r_f108_4 : List SOp :=
   [.op ⟨(some 25), (.mv (.tmp 5)), none⟩,
    .op ⟨(some 26), (.bin .eql (.tmp 25) (.av (.int .i64 1))), none⟩,
    .op ⟨(some 24), (.mv (.tmp 26)), none⟩]
def r_f108_5 : List SOp :=
   [.op ⟨(some 27), (.mv (.tmp 0)), none⟩,
    .op ⟨(some 28), (.mv (.tmp 1)), none⟩,
    .op ⟨(some 29), (.idxS (.tmp 28) (.av (.int .i64 0))), none⟩,
    .op ⟨(some 30), (.call 140 [(.tmp 27), (.tmp 29)]), none⟩,
    .op ⟨(some 4), (.mv (.tmp 30)), none⟩]
def r_f108_6 : List SOp :=
   [.op ⟨(some 32), (.mv (.tmp 5)), none⟩,
    .op ⟨(some 33), (.mv (.tmp 0)), none⟩,
    .op ⟨(some 34), (.len true (.tmp 33)), none⟩,
    .op ⟨(some 35), (.bin .geq (.tmp 32) (.tmp 34)), none⟩,
    .op ⟨(some 31), (.mv (.tmp 35)), none⟩]
def r_f108_7 : List SOp :=
   [.op ⟨(some 4), (.mv (.av (.int .i64 (-1)))), none⟩]
def r_f108_8 : List SOp :=
   [.op ⟨(some 37), (.mv (.tmp 5)), none⟩,
    .op ⟨(some 38), (.load false 1 (.av (.gptr 4 0))), none⟩,
    .op ⟨(some 39), (.bin .leq (.tmp 37) (.tmp 38)), none⟩,
    .op ⟨(some 40), (.mv (.tmp 39)), none⟩,
    .grp none 40 true
      [.op ⟨(some 41), (.mv (.tmp 0)), (some (40, true))⟩,
      .op ⟨(some 42), (.len true (.tmp 41)), (some (40, true))⟩,
      .op ⟨(some 43), (.bin .leq (.tmp 42) (.av (.int .i64 64))), (some (40, true))⟩]
      44 (.tmp 43),
    .op ⟨(some 36), (.mv (.tmp 44)), none⟩]
def r_f108_9 : List SOp :=
   [.op ⟨(some 45), (.mv (.tmp 0)), none⟩,
    .op ⟨(some 46), (.mv (.tmp 1)), none⟩,
    .op ⟨(some 47), (.call 141 [(.tmp 45), (.tmp 46)]), none⟩,
    .op ⟨(some 4), (.mv (.tmp 47)), none⟩]
def r_f108_10 : List SOp :=
   [.op ⟨(some 48), (.mv (.tmp 1)), none⟩,
    .op ⟨(some 49), (.idxS (.tmp 48) (.av (.int .i64 0))), none⟩,
    .op ⟨(some 6), (.mv (.tmp 49)), none⟩]
def r_f108_11 : List SOp :=
   [.op ⟨(some 50), (.mv (.tmp 1)), none⟩,
    .op ⟨(some 51), (.idxS (.tmp 50) (.av (.int .i64 1))), none⟩,
    .op ⟨(some 7), (.mv (.tmp 51)), none⟩]
def r_f108_12 : List SOp :=
   [.op ⟨(some 8), (.mv (.av (.int .i64 0))), none⟩]
def r_f108_13 : List SOp :=
   [.op ⟨(some 52), (.mv (.tmp 0)), none⟩,
    .op ⟨(some 53), (.len true (.tmp 52)), none⟩,
    .op ⟨(some 54), (.mv (.tmp 5)), none⟩,
    .op ⟨(some 55), (.bin .sub (.tmp 53) (.tmp 54)), none⟩,
    .op ⟨(some 56), (.bin .add (.tmp 55) (.av (.int .i64 1))), none⟩,
    .op ⟨(some 9), (.mv (.tmp 56)), none⟩]
def r_f108_14 : List SOp :=
   [.op ⟨(some 10), (.mv (.av (.int .i64 0))), none⟩]
def r_f108_15 : List SOp :=
   [.op ⟨(some 57), (.mv (.tmp 8)), none⟩,
    .op ⟨(some 58), (.mv (.tmp 9)), none⟩,
    .op ⟨(some 59), (.bin .lss (.tmp 57) (.tmp 58)), none⟩]
def r_f108_16 : List SOp :=
   [.op ⟨(some 60), (.mv (.tmp 0)), none⟩,
    .op ⟨(some 61), (.mv (.tmp 8)), none⟩,
    .op ⟨(some 62), (.idxS (.tmp 60) (.tmp 61)), none⟩,
    .op ⟨(some 63), (.mv (.tmp 6)), none⟩,
    .op ⟨(some 64), (.bin .neq (.tmp 62) (.tmp 63)), none⟩]
def r_f108_17 : List SOp :=
   [.op ⟨(some 65), (.mv (.tmp 0)), none⟩,
    .op ⟨(some 66), (.mv (.tmp 8)), none⟩,
    .op ⟨(some 67), (.bin .add (.tmp 66) (.av (.int .i64 1))), none⟩,
    .op ⟨(some 68), (.mv (.tmp 9)), none⟩,
    .op ⟨(some 69), (.slS (.tmp 65) (some (.tmp 67)) (some (.tmp 68))), none⟩,
    .op ⟨(some 70), (.mv (.tmp 6)), none⟩,
    .op ⟨(some 71), (.call 140 [(.tmp 69), (.tmp 70)]), none⟩,
    .op ⟨(some 11), (.mv (.tmp 71)), none⟩]
def r_f108_18 : List SOp :=
   [.op ⟨(some 72), (.mv (.tmp 11)), none⟩,
    .op ⟨(some 73), (.bin .lss (.tmp 72) (.av (.int .i64 0))), none⟩]
def r_f108_19 : List SOp :=
   [.op ⟨(some 4), (.mv (.av (.int .i64 (-1)))), none⟩]
def r_f108_20 : List SOp :=
   [.op ⟨(some 74), (.mv (.tmp 8)), none⟩,
    .op ⟨(some 75), (.mv (.tmp 11)), none⟩,
    .op ⟨(some 76), (.bin .add (.tmp 75) (.av (.int .i64 1))), none⟩,
    .op ⟨(some 77), (.bin .add (.tmp 74) (.tmp 76)), none⟩,
    .op ⟨(some 8), (.mv (.tmp 77)), none⟩]
def r_f108_21 : List SOp :=
   [.op ⟨(some 78), (.mv (.tmp 0)), none⟩,
    .op ⟨(some 79), (.mv (.tmp 8)), none⟩,
    .op ⟨(some 80), (.bin .add (.tmp 79) (.av (.int .i64 1))), none⟩,
    .op ⟨(some 81), (.idxS (.tmp 78) (.tmp 80)), none⟩,
    .op ⟨(some 82), (.mv (.tmp 7)), none⟩,
    .op ⟨(some 83), (.bin .eql (.tmp 81) (.tmp 82)), none⟩,
    .op ⟨(some 84), (.mv (.tmp 83)), none⟩,
    .grp none 84 true
      [.op ⟨(some 85), (.mv (.tmp 0)), (some (84, true))⟩,
      .op ⟨(some 86), (.mv (.tmp 8)), (some (84, true))⟩,
      .op ⟨(some 87), (.mv (.tmp 8)), (some (84, true))⟩,
      .op ⟨(some 88), (.mv (.tmp 5)), (some (84, true))⟩,
      .op ⟨(some 89), (.bin .add (.tmp 87) (.tmp 88)), (some (84, true))⟩,
      .op ⟨(some 90), (.slS (.tmp 85) (some (.tmp 86)) (some (.tmp 89))), (some (84, true))⟩,
      .op ⟨(some 91), (.mv (.tmp 1)), (some (84, true))⟩,
      .op ⟨(some 92), (.bin .eql (.tmp 90) (.tmp 91)), (some (84, true))⟩]
      93 (.tmp 92)]
def r_f108_22 : List SOp :=
   [.op ⟨(some 94), (.mv (.tmp 8)), none⟩,
    .op ⟨(some 4), (.mv (.tmp 94)), none⟩]
def r_f108_23 : List SOp :=
   [.op ⟨(some 95), (.mv (.tmp 8)), none⟩,
    .op ⟨(some 96), (.bin .add (.tmp 95) (.av (.int .i64 1))), none⟩,
    .op ⟨(some 8), (.mv (.tmp 96)), none⟩]
def r_f108_24 : List SOp :=
   [.op ⟨(some 97), (.mv (.tmp 10)), none⟩,
    .op ⟨(some 98), (.bin .add (.tmp 97) (.av (.int .i64 1))), none⟩,
    .op ⟨(some 10), (.mv (.tmp 98)), none⟩]
def r_f108_25 : List SOp :=
   [.op ⟨(some 99), (.mv (.tmp 5)), none⟩,
    .op ⟨(some 100), (.load false 1 (.av (.gptr 4 0))), none⟩,
    .op ⟨(some 101), (.bin .leq (.tmp 99) (.tmp 100)), none⟩,
    .op ⟨(some 102), (.mv (.tmp 101)), none⟩,
    .op ⟨(some 103), (.mv (.tmp 10)), (some (102, true))⟩,
    .op ⟨(some 104), (.mv (.tmp 8)), (some (102, true))⟩,
    .op ⟨(some 105), (.call 142 [(.tmp 104)]), (some (102, true))⟩,
    .op ⟨(some 106), (.bin .gtr (.tmp 103) (.tmp 105)), (some (102, true))⟩,
    .op ⟨(some 107), (.pick (.tmp 102) (.tmp 106) (.av (.bool false))), none⟩]
def r_f108_26 : List SOp :=
   [.op ⟨(some 108), (.mv (.tmp 0)), none⟩,
    .op ⟨(some 109), (.mv (.tmp 8)), none⟩,
    .op ⟨(some 110), (.slS (.tmp 108) (some (.tmp 109)) none), none⟩,
    .op ⟨(some 111), (.mv (.tmp 1)), none⟩,
    .op ⟨(some 112), (.call 141 [(.tmp 110), (.tmp 111)]), none⟩,
    .op ⟨(some 12), (.mv (.tmp 112)), none⟩]
def r_f108_27 : List SOp :=
   [.op ⟨(some 113), (.mv (.tmp 12)), none⟩,
    .op ⟨(some 114), (.bin .geq (.tmp 113) (.av (.int .i64 0))), none⟩]
def r_f108_28 : List SOp :=
   [.op ⟨(some 115), (.mv (.tmp 12)), none⟩,
    .op ⟨(some 116), (.mv (.tmp 8)), none⟩,
    .op ⟨(some 117), (.bin .add (.tmp 115) (.tmp 116)), none⟩,
    .op ⟨(some 4), (.mv (.tmp 117)), none⟩]
def r_f108_29 : List SOp :=
   [.op ⟨(some 4), (.mv (.av (.int .i64 (-1)))), none⟩]
def r_f108_30 : List SOp :=
   [.op ⟨(some 118), (.mv (.tmp 5)), none⟩,
    .op ⟨(some 119), (.load false 1 (.av (.gptr 4 0))), none⟩,
    .op ⟨(some 120), (.bin .gtr (.tmp 118) (.tmp 119)), none⟩,
    .op ⟨(some 121), (.mv (.tmp 120)), none⟩,
    .grp none 121 true
      [.op ⟨(some 122), (.mv (.tmp 10)), (some (121, true))⟩,
      .op ⟨(some 123), (.mv (.tmp 8)), (some (121, true))⟩,
      .op ⟨(some 124), (.bin .shr (.tmp 123) (.av (.int .u64 4))), (some (121, true))⟩,
      .op ⟨(some 125), (.bin .add (.av (.int .i64 4)) (.tmp 124)), (some (121, true))⟩,
      .op ⟨(some 126), (.bin .geq (.tmp 122) (.tmp 125)), (some (121, true))⟩]
      127 (.tmp 126),
    .op ⟨(some 128), (.mv (.tmp 127)), none⟩,
    .grp none 128 true
      [.op ⟨(some 129), (.mv (.tmp 8)), (some (128, true))⟩,
      .op ⟨(some 130), (.mv (.tmp 9)), (some (128, true))⟩,
      .op ⟨(some 131), (.bin .lss (.tmp 129) (.tmp 130)), (some (128, true))⟩]
      132 (.tmp 131)]
def r_f108_31 : List SOp :=
   [.op ⟨(some 133), (.mv (.tmp 0)), none⟩,
    .op ⟨(some 134), (.mv (.tmp 8)), none⟩,
    .op ⟨(some 135), (.slS (.tmp 133) (some (.tmp 134)) none), none⟩,
    .op ⟨(some 136), (.mv (.tmp 1)), none⟩,
    .op ⟨(some 137), (.call 143 [(.tmp 135), (.tmp 136)]), none⟩,
    .op ⟨(some 13), (.mv (.tmp 137)), none⟩]
def r_f108_32 : List SOp :=
   [.op ⟨(some 138), (.mv (.tmp 13)), none⟩,
    .op ⟨(some 139), (.bin .lss (.tmp 138) (.av (.int .i64 0))), none⟩]
def r_f108_33 : List SOp :=
   [.op ⟨(some 4), (.mv (.av (.int .i64 (-1)))), none⟩]
def r_f108_34 : List SOp :=
   [.op ⟨(some 140), (.mv (.tmp 8)), none⟩,
    .op ⟨(some 141), (.mv (.tmp 13)), none⟩,
    .op ⟨(some 142), (.bin .add (.tmp 140) (.tmp 141)), none⟩,
    .op ⟨(some 4), (.mv (.tmp 142)), none⟩]
def r_f108_35 : List SOp :=
   [.op ⟨(some 4), (.mv (.av (.int .i64 (-1)))), none⟩]
def c_f108 : LFun := ⟨143, (.seq (.sreg r_f108_0 [])
  (.seq (.sreg r_f108_1 [true, false, false])
  (.seq (.block 0 (.seq (.sreg r_f108_2 [true, false, false, false, false])
  (.cond (.tmp 16) (.seq (.sreg r_f108_3 [])
  .ret)
  (.seq (.sreg r_f108_4 [true, false, false])
  (.cond (.tmp 24) (.seq (.sreg r_f108_5 [true, false, false, false, false])
  .ret)
  (.seq (.sreg r_f108_6 [true, false, false, false, false])
  (.cond (.tmp 31) (.seq (.sreg r_f108_7 [])
  .ret)
  (.seq (.sreg r_f108_8 [true, false, false, false, false, false])
  (.cond (.tmp 36) (.seq (.sreg r_f108_9 [true, false, false, false])
  .ret)
  .skip)))))))))
  (.seq (.sreg r_f108_10 [true, false, false])
  (.seq (.sreg r_f108_11 [true, false, false])
  (.seq (.sreg r_f108_12 [])
  (.seq (.sreg r_f108_13 [true, false, false, false, false, false])
  (.seq (.sreg r_f108_14 [])
  (.seq (.block 1 (.loop (.seq (.seq (.sreg r_f108_15 [true, false, false])
  (.cond (.tmp 59) .skip
  (.exit 1)))
  (.block 2 (.seq (.seq (.sreg r_f108_16 [true, false, false, false, false])
  (.cond (.tmp 64) (.seq (.sreg r_f108_17 [true, false, false, false, false, false, false, false])
  (.seq (.seq (.sreg r_f108_18 [true, false])
  (.cond (.tmp 73) (.seq (.sreg r_f108_19 [])
  .ret)
  .skip))
  (.sreg r_f108_20 [true, false, false, false, false])))
  .skip))
  (.seq (.seq (.sreg r_f108_21 [true, false, false, false, false, false, false, false])
  (.cond (.tmp 93) (.seq (.sreg r_f108_22 [true, false])
  .ret)
  .skip))
  (.seq (.sreg r_f108_23 [true, false, false])
  (.seq (.sreg r_f108_24 [true, false, false])
  (.seq (.sreg r_f108_25 [true, false, false, false, false, false, false, false, false])
  (.cond (.tmp 107) (.seq (.sreg r_f108_26 [true, false, false, false, false, false])
  (.seq (.seq (.sreg r_f108_27 [true, false])
  (.cond (.tmp 114) (.seq (.sreg r_f108_28 [true, false, false, false])
  .ret)
  .skip))
  (.seq (.sreg r_f108_29 [])
  .ret)))
  (.seq (.sreg r_f108_30 [true, false, false, false, false, false, false])
  (.cond (.tmp 132) (.seq (.sreg r_f108_31 [true, false, false, false, false, false])
  (.seq (.seq (.sreg r_f108_32 [true, false])
  (.cond (.tmp 139) (.seq (.sreg r_f108_33 [])
  .ret)
  .skip))
  (.seq (.sreg r_f108_34 [true, false, false, false])
  .ret)))
  .skip))))))))))))
  (.seq (.sreg r_f108_35 [])
  .ret)))))))))), [(.tmp 4)]⟩
def o_f108 : Nat → Nat → Nat := fun _ _ => 1
theorem c_f108_eq : lowF Tryz.prog o_f108 108 = some c_f108.raw := by kernel_rfl
theorem c_f108_ok : c_f108.code.okc = true := by kernel_rfl
/-! internal/stringslite.HasPrefix -/
def r_f109_0 : List SOp :=
   [.op ⟨(some 4), (.mv (.av (.bool false))), none⟩]
def r_f109_1 : List SOp :=
   [.op ⟨(some 5), (.mv (.tmp 0)), none⟩,
    .op ⟨(some 6), (.len true (.tmp 5)), none⟩,
    .op ⟨(some 7), (.mv (.tmp 1)), none⟩,
    .op ⟨(some 8), (.len true (.tmp 7)), none⟩,
    .op ⟨(some 9), (.bin .geq (.tmp 6) (.tmp 8)), none⟩,
    .op ⟨(some 10), (.mv (.tmp 9)), none⟩,
    .grp none 10 true
      [.op ⟨(some 11), (.mv (.tmp 0)), (some (10, true))⟩,
      .op ⟨(some 12), (.mv (.tmp 1)), (some (10, true))⟩,
      .op ⟨(some 13), (.len true (.tmp 12)), (some (10, true))⟩,
      .op ⟨(some 14), (.slS (.tmp 11) none (some (.tmp 13))), (some (10, true))⟩,
      .op ⟨(some 15), (.mv (.tmp 1)), (some (10, true))⟩,
      .op ⟨(some 16), (.bin .eql (.tmp 14) (.tmp 15)), (some (10, true))⟩]
      17 (.tmp 16),
    .op ⟨(some 4), (.mv (.tmp 17)), none⟩]
def c_f109 : LFun := ⟨18, (.seq (.sreg r_f109_0 [])
  (.seq (.sreg r_f109_1 [true, false, false, false, false, false, false, false])
  .ret)), [(.tmp 4)]⟩
def o_f109 : Nat → Nat → Nat := fun _ _ => 1
theorem c_f109_eq : lowF Tryz.prog o_f109 109 = some c_f109.raw := by kernel_rfl
theorem c_f109_ok : c_f109.code.okc = true := by kernel_rfl
/-! internal/stringslite.HasSuffix -/
def r_f110_0 : List SOp :=
   [.op ⟨(some 4), (.mv (.av (.bool false))), none⟩]
def r_f110_1 : List SOp :=
   [.op ⟨(some 5), (.mv (.tmp 0)), none⟩,
    .op ⟨(some 6), (.len true (.tmp 5)), none⟩,
    .op ⟨(some 7), (.mv (.tmp 1)), none⟩,
    .op ⟨(some 8), (.len true (.tmp 7)), none⟩,
    .op ⟨(some 9), (.bin .geq (.tmp 6) (.tmp 8)), none⟩,
    .op ⟨(some 10), (.mv (.tmp 9)), none⟩,
    .grp none 10 true
      [.op ⟨(some 11), (.mv (.tmp 0)), (some (10, true))⟩,
      .op ⟨(some 12), (.mv (.tmp 0)), (some (10, true))⟩,
      .op ⟨(some 13), (.len true (.tmp 12)), (some (10, true))⟩,
      .op ⟨(some 14), (.mv (.tmp 1)), (some (10, true))⟩,
      .op ⟨(some 15), (.len true (.tmp 14)), (some (10, true))⟩,
      .op ⟨(some 16), (.bin .sub (.tmp 13) (.tmp 15)), (some (10, true))⟩,
      .op ⟨(some 17), (.slS (.tmp 11) (some (.tmp 16)) none), (some (10, true))⟩,
      .op ⟨(some 18), (.mv (.tmp 1)), (some (10, true))⟩,
      .op ⟨(some 19), (.bin .eql (.tmp 17) (.tmp 18)), (some (10, true))⟩]
      20 (.tmp 19),
    .op ⟨(some 4), (.mv (.tmp 20)), none⟩]
def c_f110 : LFun := ⟨21, (.seq (.sreg r_f110_0 [])
  (.seq (.sreg r_f110_1 [true, false, false, false, false, false, false, false])
  .ret)), [(.tmp 4)]⟩
def o_f110 : Nat → Nat → Nat := fun _ _ => 1
theorem c_f110_eq : lowF Tryz.prog o_f110 110 = some c_f110.raw := by kernel_rfl
theorem c_f110_ok : c_f110.code.okc = true := by kernel_rfl
/-! internal/strconv.ParseInt -/
def r_f98_0 : List SOp :=
   [.op ⟨(some 6), (.mv (.av (.int .i64 0))), none⟩,
    .op ⟨(some 7), (.mv (.av .nilif)), none⟩]
def r_f98_1 : List SOp :=
   [.op ⟨(some 12), (.mv (.tmp 0)), none⟩,
    .op ⟨(some 13), (.bin .eql (.tmp 12) (.av (.str []))), none⟩]
def r_f98_2 : List SOp :=
   [.op ⟨(some 14), (.mkif 181 (.av (.int .i64 2))), none⟩,
    .op ⟨(some 6), (.mv (.av (.int .i64 0))), none⟩,
    .op ⟨(some 7), (.mv (.tmp 14)), none⟩]
def r_f98_3 : List SOp :=
   [.op ⟨(some 8), (.mv (.av (.bool false))), none⟩]
def r_f98_4 : List SOp :=
   [.op ⟨(some 15), (.mv (.tmp 0)), none⟩,
    .op ⟨(some 16), (.idxS (.tmp 15) (.av (.int .i64 0))), none⟩]
def r_f98_5 : List SOp :=
   [.op ⟨(some 18), (.bin .eql (.tmp 16) (.av (.int .u8 43))), none⟩,
    .op ⟨(some 17), (.mv (.tmp 18)), none⟩]
def r_f98_6 : List SOp :=
   [.op ⟨(some 19), (.mv (.tmp 0)), none⟩,
    .op ⟨(some 20), (.slS (.tmp 19) (some (.av (.int .i64 1))) none), none⟩,
    .op ⟨(some 0), (.mv (.tmp 20)), none⟩]
def r_f98_7 : List SOp :=
   [.op ⟨(some 22), (.bin .eql (.tmp 16) (.av (.int .u8 45))), none⟩,
    .op ⟨(some 21), (.mv (.tmp 22)), none⟩]
def r_f98_8 : List SOp :=
   [.op ⟨(some 23), (.mv (.tmp 0)), none⟩,
    .op ⟨(some 24), (.slS (.tmp 23) (some (.av (.int .i64 1))) none), none⟩,
    .op ⟨(some 0), (.mv (.tmp 24)), none⟩]
def r_f98_9 : List SOp :=
   [.op ⟨(some 8), (.mv (.av (.bool true))), none⟩]
def r_f98_10 : List SOp :=
   [.op ⟨(some 9), (.mv (.av (.int .u64 0))), none⟩]
def r_f98_11 : List SOp :=
   [.op ⟨(some 26), (.mv (.tmp 0)), none⟩,
    .op ⟨(some 27), (.mv (.tmp 1)), none⟩,
    .op ⟨(some 28), (.mv (.tmp 2)), none⟩,
    .op ⟨(some 29), (.call 124 [(.tmp 26), (.tmp 27), (.tmp 28)]), none⟩,
    .op ⟨(some 25), (.mv (.tmp 29)), none⟩,
    .op ⟨(some 30), (.extract (.tmp 25) 0), none⟩,
    .op ⟨(some 31), (.extract (.tmp 25) 1), none⟩,
    .op ⟨(some 9), (.mv (.tmp 30)), none⟩,
    .op ⟨(some 7), (.mv (.tmp 31)), none⟩]
def r_f98_12 : List SOp :=
   [.op ⟨(some 32), (.mv (.tmp 7)), none⟩,
    .op ⟨(some 33), (.eqk true .iface (.tmp 32) (.av .nilif)), none⟩,
    .op ⟨(some 34), (.mv (.tmp 33)), none⟩,
    .grp none 34 true
      [.op ⟨(some 35), (.mv (.tmp 7)), (some (34, true))⟩,
      .op ⟨(some 36), (.mkif 181 (.av (.int .i64 1))), (some (34, true))⟩,
      .op ⟨(some 37), .bad, (some (34, true))⟩]
      38 (.tmp 37)]
def r_f98_13 : List SOp :=
   [.op ⟨(some 39), (.mv (.tmp 7)), none⟩,
    .op ⟨(some 6), (.mv (.av (.int .i64 0))), none⟩,
    .op ⟨(some 7), (.mv (.tmp 39)), none⟩]
def r_f98_14 : List SOp :=
   [.op ⟨(some 40), (.mv (.tmp 2)), none⟩,
    .op ⟨(some 41), (.bin .eql (.tmp 40) (.av (.int .i64 0))), none⟩]
def r_f98_15 : List SOp :=
   [.op ⟨(some 2), (.mv (.av (.int .i64 64))), none⟩]
def r_f98_16 : List SOp :=
   [.op ⟨(some 42), (.mv (.tmp 2)), none⟩,
    .op ⟨(some 43), (.bin .sub (.tmp 42) (.av (.int .i64 1))), none⟩,
    .op ⟨(some 44), (.conv .u64 (.tmp 43)), none⟩,
    .op ⟨(some 45), (.bin .shl (.av (.int .u64 1)) (.tmp 44)), none⟩,
    .op ⟨(some 10), (.mv (.tmp 45)), none⟩]
def r_f98_17 : List SOp :=
   [.op ⟨(some 46), (.mv (.tmp 8)), none⟩,
    .op ⟨(some 47), (.un .not (.tmp 46)), none⟩,
    .op ⟨(some 48), (.mv (.tmp 47)), none⟩,
    .grp none 48 true
      [.op ⟨(some 49), (.mv (.tmp 9)), (some (48, true))⟩,
      .op ⟨(some 50), (.mv (.tmp 10)), (some (48, true))⟩,
      .op ⟨(some 51), (.bin .geq (.tmp 49) (.tmp 50)), (some (48, true))⟩]
      52 (.tmp 51)]
def r_f98_18 : List SOp :=
   [.op ⟨(some 53), (.mv (.tmp 10)), none⟩,
    .op ⟨(some 54), (.bin .sub (.tmp 53) (.av (.int .u64 1))), none⟩,
    .op ⟨(some 55), (.conv .i64 (.tmp 54)), none⟩,
    .op ⟨(some 56), (.mkif 181 (.av (.int .i64 1))), none⟩,
    .op ⟨(some 6), (.mv (.tmp 55)), none⟩,
    .op ⟨(some 7), (.mv (.tmp 56)), none⟩]
def r_f98_19 : List SOp :=
   [.op ⟨(some 57), (.mv (.tmp 8)), none⟩,
    .op ⟨(some 58), (.mv (.tmp 57)), none⟩,
    .grp none 58 true
      [.op ⟨(some 59), (.mv (.tmp 9)), (some (58, true))⟩,
      .op ⟨(some 60), (.mv (.tmp 10)), (some (58, true))⟩,
      .op ⟨(some 61), (.bin .gtr (.tmp 59) (.tmp 60)), (some (58, true))⟩]
      62 (.tmp 61)]
def r_f98_20 : List SOp :=
   [.op ⟨(some 63), (.mv (.tmp 10)), none⟩,
    .op ⟨(some 64), (.conv .i64 (.tmp 63)), none⟩,
    .op ⟨(some 65), (.un .neg (.tmp 64)), none⟩,
    .op ⟨(some 66), (.mkif 181 (.av (.int .i64 1))), none⟩,
    .op ⟨(some 6), (.mv (.tmp 65)), none⟩,
    .op ⟨(some 7), (.mv (.tmp 66)), none⟩]
def r_f98_21 : List SOp :=
   [.op ⟨(some 67), (.mv (.tmp 9)), none⟩,
    .op ⟨(some 68), (.conv .i64 (.tmp 67)), none⟩,
    .op ⟨(some 11), (.mv (.tmp 68)), none⟩]
def r_f98_22 : List SOp :=
   [.op ⟨(some 69), (.mv (.tmp 8)), none⟩]
def r_f98_23 : List SOp :=
   [.op ⟨(some 70), (.mv (.tmp 11)), none⟩,
    .op ⟨(some 71), (.un .neg (.tmp 70)), none⟩,
    .op ⟨(some 11), (.mv (.tmp 71)), none⟩]
def r_f98_24 : List SOp :=
   [.op ⟨(some 72), (.mv (.tmp 11)), none⟩,
    .op ⟨(some 6), (.mv (.tmp 72)), none⟩,
    .op ⟨(some 7), (.mv (.av .nilif)), none⟩]
def c_f98 : LFun := ⟨73, (.seq (.sreg r_f98_0 [])
  (.seq (.seq (.sreg r_f98_1 [true, false])
  (.cond (.tmp 13) (.seq (.sreg r_f98_2 [true, true, false])
  .ret)
  .skip))
  (.seq (.sreg r_f98_3 [])
  (.seq (.seq (.sreg r_f98_4 [true, false])
  (.block 0 (.seq (.sreg r_f98_5 [true, false])
  (.cond (.tmp 17) (.sreg r_f98_6 [true, false, false])
  (.seq (.sreg r_f98_7 [true, false])
  (.cond (.tmp 21) (.seq (.sreg r_f98_8 [true, false, false])
  (.sreg r_f98_9 []))
  .skip))))))
  (.seq (.sreg r_f98_10 [])
  (.seq (.sreg r_f98_11 [true, true, false, false, false, false, false, false, false])
  (.seq (.seq (.sreg r_f98_12 [true, false, false, false])
  (.cond (.tmp 38) (.seq (.sreg r_f98_13 [true, true, false])
  .ret)
  .skip))
  (.seq (.seq (.sreg r_f98_14 [true, false])
  (.cond (.tmp 41) (.sreg r_f98_15 [])
  .skip))
  (.seq (.sreg r_f98_16 [true, false, false, false, false])
  (.seq (.seq (.sreg r_f98_17 [true, false, false, false])
  (.cond (.tmp 52) (.seq (.sreg r_f98_18 [true, true, false, false, false, false])
  .ret)
  .skip))
  (.seq (.seq (.sreg r_f98_19 [true, false, false])
  (.cond (.tmp 62) (.seq (.sreg r_f98_20 [true, true, false, false, false, false])
  .ret)
  .skip))
  (.seq (.sreg r_f98_21 [true, false, false])
  (.seq (.seq (.sreg r_f98_22 [])
  (.cond (.tmp 69) (.sreg r_f98_23 [true, false, false])
  .skip))
  (.seq (.sreg r_f98_24 [true, true, false])
  .ret)))))))))))))), [(.tmp 6), (.tmp 7)]⟩
def o_f98 : Nat → Nat → Nat := fun _ _ => 1
theorem c_f98_eq : lowF Tryz.prog o_f98 98 = some c_f98.raw := by kernel_rfl
theorem c_f98_ok : c_f98.code.okc = true := by kernel_rfl
/-! strconv.toError -/
def r_f99_0 : List SOp :=
   [.op ⟨(some 10), (.mv (.av .nilif)), none⟩]
def r_f99_1 : List SOp :=
   [.op ⟨(some 11), (.mv (.tmp 4)), none⟩]
def r_f99_2 : List SOp :=
   [.op ⟨(some 13), (.mkif 181 (.av (.int .i64 2))), none⟩,
    .op ⟨(some 14), .bad, none⟩,
    .op ⟨(some 12), (.mv (.tmp 14)), none⟩]
def r_f99_3 : List SOp :=
   [.op ⟨(some 15), (.mv (.tmp 0)), none⟩,
    .op ⟨(some 16), (.mv (.tmp 1)), none⟩,
    .op ⟨(some 17), (.call 125 [(.tmp 15), (.tmp 16)]), none⟩,
    .op ⟨(some 18), (.mkif 184 (.tmp 17)), none⟩,
    .op ⟨(some 10), (.mv (.tmp 18)), none⟩]
def r_f99_4 : List SOp :=
   [.op ⟨(some 20), (.mkif 181 (.av (.int .i64 1))), none⟩,
    .op ⟨(some 21), .bad, none⟩,
    .op ⟨(some 19), (.mv (.tmp 21)), none⟩]
def r_f99_5 : List SOp :=
   [.op ⟨(some 22), (.mv (.tmp 0)), none⟩,
    .op ⟨(some 23), (.mv (.tmp 1)), none⟩,
    .op ⟨(some 24), (.call 126 [(.tmp 22), (.tmp 23)]), none⟩,
    .op ⟨(some 25), (.mkif 184 (.tmp 24)), none⟩,
    .op ⟨(some 10), (.mv (.tmp 25)), none⟩]
def r_f99_6 : List SOp :=
   [.op ⟨(some 27), (.mkif 181 (.av (.int .i64 3))), none⟩,
    .op ⟨(some 28), .bad, none⟩,
    .op ⟨(some 26), (.mv (.tmp 28)), none⟩]
def r_f99_7 : List SOp :=
   [.op ⟨(some 29), (.mv (.tmp 0)), none⟩,
    .op ⟨(some 30), (.mv (.tmp 1)), none⟩,
    .op ⟨(some 31), (.mv (.tmp 2)), none⟩,
    .op ⟨(some 32), (.call 127 [(.tmp 29), (.tmp 30), (.tmp 31)]), none⟩,
    .op ⟨(some 33), (.mkif 184 (.tmp 32)), none⟩,
    .op ⟨(some 10), (.mv (.tmp 33)), none⟩]
def r_f99_8 : List SOp :=
   [.op ⟨(some 35), (.mkif 181 (.av (.int .i64 4))), none⟩,
    .op ⟨(some 36), .bad, none⟩,
    .op ⟨(some 34), (.mv (.tmp 36)), none⟩]
def r_f99_9 : List SOp :=
   [.op ⟨(some 37), (.mv (.tmp 0)), none⟩,
    .op ⟨(some 38), (.mv (.tmp 1)), none⟩,
    .op ⟨(some 39), (.mv (.tmp 3)), none⟩,
    .op ⟨(some 40), (.call 128 [(.tmp 37), (.tmp 38), (.tmp 39)]), none⟩,
    .op ⟨(some 41), (.mkif 184 (.tmp 40)), none⟩,
    .op ⟨(some 10), (.mv (.tmp 41)), none⟩]
def r_f99_10 : List SOp :=
   [.op ⟨(some 42), (.mv (.tmp 4)), none⟩,
    .op ⟨(some 10), (.mv (.tmp 42)), none⟩]
def c_f99 : LFun := ⟨43, (.seq (.sreg r_f99_0 [])
  (.seq (.seq (.sreg r_f99_1 [false])
  (.block 0 (.seq (.sreg r_f99_2 [true, false, false])
  (.cond (.tmp 12) (.seq (.sreg r_f99_3 [true, false, false, false, false])
  .ret)
  (.seq (.sreg r_f99_4 [true, false, false])
  (.cond (.tmp 19) (.seq (.sreg r_f99_5 [true, false, false, false, false])
  .ret)
  (.seq (.sreg r_f99_6 [true, false, false])
  (.cond (.tmp 26) (.seq (.sreg r_f99_7 [true, false, false, false, false, false])
  .ret)
  (.seq (.sreg r_f99_8 [true, false, false])
  (.cond (.tmp 34) (.seq (.sreg r_f99_9 [true, false, false, false, false, false])
  .ret)
  .skip))))))))))
  (.seq (.sreg r_f99_10 [true, false])
  .ret))), [(.tmp 10)]⟩
def o_f99 : Nat → Nat → Nat := fun _ _ => 1
theorem c_f99_eq : lowF Tryz.prog o_f99 99 = some c_f99.raw := by kernel_rfl
theorem c_f99_ok : c_f99.code.okc = true := by kernel_rfl
/-! internal/strconv.FormatInt -/
def r_f26_0 : List SOp :=
   [.op ⟨(some 4), (.mv (.av (.str []))), none⟩]
def r_f26_1 : List SOp :=
   [.op ⟨(some 10), (.mv (.tmp 1)), none⟩,
    .op ⟨(some 11), (.bin .eql (.tmp 10) (.av (.int .i64 10))), none⟩]
def r_f26_2 : List SOp :=
   [.op ⟨(some 12), (.mv (.tmp 0)), none⟩,
    .op ⟨(some 13), (.bin .leq (.av (.int .i64 0)) (.tmp 12)), none⟩,
    .op ⟨(some 14), (.mv (.tmp 13)), none⟩,
    .grp none 14 true
      [.op ⟨(some 15), (.mv (.tmp 0)), (some (14, true))⟩,
      .op ⟨(some 16), (.bin .lss (.tmp 15) (.av (.int .i64 100))), (some (14, true))⟩]
      17 (.tmp 16)]
def r_f26_3 : List SOp :=
   [.op ⟨(some 18), (.mv (.tmp 0)), none⟩,
    .op ⟨(some 19), (.call 61 [(.tmp 18)]), none⟩,
    .op ⟨(some 4), (.mv (.tmp 19)), none⟩]
def r_f26_4 : List SOp :=
   [.op ⟨(some 5), (.alloc [(.int .u8 0), (.int .u8 0), (.int .u8 0), (.int .u8 0), (.int .u8 0), (.int .u8 0), (.int .u8 0), (.int .u8 0), (.int .u8 0), (.int .u8 0), (.int .u8 0), (.int .u8 0), (.int .u8 0), (.int .u8 0), (.int .u8 0), (.int .u8 0), (.int .u8 0), (.int .u8 0), (.int .u8 0), (.int .u8 0), (.int .u8 0), (.int .u8 0), (.int .u8 0), (.int .u8 0)]), none⟩]
def r_f26_5 : List SOp :=
   [.op ⟨(some 20), (.mv (.tmp 0)), none⟩,
    .op ⟨(some 21), (.conv .u64 (.tmp 20)), none⟩,
    .op ⟨(some 6), (.mv (.tmp 21)), none⟩]
def r_f26_6 : List SOp :=
   [.op ⟨(some 22), (.mv (.tmp 0)), none⟩,
    .op ⟨(some 23), (.bin .lss (.tmp 22) (.av (.int .i64 0))), none⟩]
def r_f26_7 : List SOp :=
   [.op ⟨(some 24), (.mv (.tmp 6)), none⟩,
    .op ⟨(some 25), (.un .neg (.tmp 24)), none⟩,
    .op ⟨(some 6), (.mv (.tmp 25)), none⟩]
def r_f26_8 : List SOp :=
   [.op ⟨(some 26), (.mv (.tmp 6)), none⟩,
    .op ⟨(some 27), (.call 62 [(.tmp 26)]), none⟩,
    .op ⟨(some 7), (.mv (.tmp 27)), none⟩]
def r_f26_9 : List SOp :=
   [.op ⟨(some 28), (.mv (.tmp 7)), none⟩,
    .op ⟨(some 29), (.bin .add (.av (.int .i64 1)) (.tmp 28)), none⟩,
    .op ⟨(some 30), (.slA 24 1 (.tmp 5) (some (.av (.int .i64 1))) (some (.tmp 29))), none⟩,
    .op ⟨(some 31), (.mv (.tmp 6)), none⟩,
    .op ⟨(some 32), (.call 63 [(.tmp 30), (.tmp 31)]), none⟩]
def r_f26_10 : List SOp :=
   [.op ⟨(some 33), (.mv (.tmp 0)), none⟩,
    .op ⟨(some 34), (.bin .lss (.tmp 33) (.av (.int .i64 0))), none⟩]
def r_f26_11 : List SOp :=
   [.op ⟨(some 35), (.iaddrA 24 1 (.tmp 5) (.av (.int .i64 0))), none⟩,
    .op ⟨none, (.store 1 (.tmp 35) (.av (.int .u8 45))), none⟩]
def r_f26_12 : List SOp :=
   [.op ⟨(some 36), (.mv (.tmp 7)), none⟩,
    .op ⟨(some 37), (.bin .add (.av (.int .i64 1)) (.tmp 36)), none⟩,
    .op ⟨(some 38), (.slA 24 1 (.tmp 5) none (some (.tmp 37))), none⟩,
    .op ⟨(some 39), (.b2s (.tmp 38)), none⟩,
    .op ⟨(some 4), (.mv (.tmp 39)), none⟩]
def r_f26_13 : List SOp :=
   [.op ⟨(some 40), (.mv (.tmp 7)), none⟩,
    .op ⟨(some 41), (.bin .add (.av (.int .i64 1)) (.tmp 40)), none⟩,
    .op ⟨(some 42), (.slA 24 1 (.tmp 5) (some (.av (.int .i64 1))) (some (.tmp 41))), none⟩,
    .op ⟨(some 43), (.b2s (.tmp 42)), none⟩,
    .op ⟨(some 4), (.mv (.tmp 43)), none⟩]
def r_f26_14 : List SOp :=
   [.op ⟨(some 45), (.mv (.tmp 0)), none⟩,
    .op ⟨(some 46), (.conv .u64 (.tmp 45)), none⟩,
    .op ⟨(some 47), (.mv (.tmp 1)), none⟩,
    .op ⟨(some 48), (.mv (.tmp 0)), none⟩,
    .op ⟨(some 49), (.bin .lss (.tmp 48) (.av (.int .i64 0))), none⟩,
    .op ⟨(some 50), (.call 64 [(.av (.sl [] 0 (some 0))), (.tmp 46), (.tmp 47), (.tmp 49), (.av (.bool false))]), none⟩,
    .op ⟨(some 44), (.mv (.tmp 50)), none⟩,
    .op ⟨(some 51), (.extract (.tmp 44) 0), none⟩,
    .op ⟨(some 52), (.extract (.tmp 44) 1), none⟩,
    .op ⟨(some 8), (.mv (.tmp 51)), none⟩,
    .op ⟨(some 9), (.mv (.tmp 52)), none⟩]
def r_f26_15 : List SOp :=
   [.op ⟨(some 53), (.mv (.tmp 9)), none⟩,
    .op ⟨(some 4), (.mv (.tmp 53)), none⟩]
def c_f26 : LFun := ⟨54, (.seq (.sreg r_f26_0 [])
  (.seq (.seq (.sreg r_f26_1 [true, false])
  (.cond (.tmp 11) (.seq (.seq (.sreg r_f26_2 [true, false, false, false])
  (.cond (.tmp 17) (.seq (.sreg r_f26_3 [true, false, false])
  .ret)
  .skip))
  (.seq (.sreg r_f26_4 [])
  (.seq (.sreg r_f26_5 [true, false, false])
  (.seq (.seq (.sreg r_f26_6 [true, false])
  (.cond (.tmp 23) (.sreg r_f26_7 [true, false, false])
  .skip))
  (.seq (.sreg r_f26_8 [true, false, false])
  (.seq (.sreg r_f26_9 [false, false, false, false, false])
  (.seq (.seq (.sreg r_f26_10 [true, false])
  (.cond (.tmp 34) (.seq (.sreg r_f26_11 [false])
  (.seq (.sreg r_f26_12 [true, false, false, false, false])
  .ret))
  .skip))
  (.seq (.sreg r_f26_13 [true, false, false, false, false])
  .ret))))))))
  .skip))
  (.seq (.sreg r_f26_14 [true, false, false, false, false, false, false, false, false, false, false])
  (.seq (.sreg r_f26_15 [true, false])
  .ret)))), [(.tmp 4)]⟩
def o_f26 : Nat → Nat → Nat := fun _ _ => 1
theorem c_f26_eq : lowF Tryz.prog o_f26 26 = some c_f26.raw := by kernel_rfl
theorem c_f26_ok : c_f26.code.okc = true := by kernel_rfl
/-! strings.Cut -/
def r_f100_0 : List SOp :=
   [.op ⟨(some 4), (.mv (.av (.str []))), none⟩,
    .op ⟨(some 5), (.mv (.av (.str []))), none⟩,
    .op ⟨(some 6), (.mv (.av (.bool false))), none⟩]
def r_f100_1 : List SOp :=
   [.op ⟨(some 7), (.mv (.tmp 0)), none⟩,
    .op ⟨(some 8), (.mv (.tmp 1)), none⟩,
    .op ⟨(some 9), (.call 129 [(.tmp 7), (.tmp 8)]), none⟩,
    .op ⟨(some 10), (.extract (.tmp 9) 0), none⟩,
    .op ⟨(some 11), (.extract (.tmp 9) 1), none⟩,
    .op ⟨(some 12), (.extract (.tmp 9) 2), none⟩,
    .op ⟨(some 4), (.mv (.tmp 10)), none⟩,
    .op ⟨(some 5), (.mv (.tmp 11)), none⟩,
    .op ⟨(some 6), (.mv (.tmp 12)), none⟩]
def c_f100 : LFun := ⟨13, (.seq (.sreg r_f100_0 [])
  (.seq (.sreg r_f100_1 [true, true, true, false, false, false, false, false, false])
  .ret)), [(.tmp 4), (.tmp 5), (.tmp 6)]⟩
def o_f100 : Nat → Nat → Nat := fun _ _ => 1
theorem c_f100_eq : lowF Tryz.prog o_f100 100 = some c_f100.raw := by kernel_rfl
theorem c_f100_ok : c_f100.code.okc = true := by kernel_rfl
/-! castellan/dn.Type -/
def r_f101_0 : List SOp :=
   [.op ⟨(some 2), (.mv (.av (.bool false))), none⟩]
def r_f101_1 : List SOp :=
   [.op ⟨(some 5), (.mv (.tmp 0)), none⟩,
    .op ⟨(some 6), (.bin .eql (.tmp 5) (.av (.str []))), none⟩,
    .op ⟨(some 7), (.mv (.tmp 6)), none⟩,
    .op ⟨(some 8), (.mv (.tmp 0)), (some (7, false))⟩,
    .op ⟨(some 9), (.len true (.tmp 8)), (some (7, false))⟩,
    .op ⟨(some 10), (.bin .gtr (.tmp 9) (.av (.int .i64 32))), (some (7, false))⟩,
    .op ⟨(some 11), (.pick (.tmp 7) (.av (.bool true)) (.tmp 10)), none⟩,
    .op ⟨(some 12), (.mv (.tmp 11)), none⟩,
    .op ⟨(some 13), (.mv (.tmp 0)), (some (12, false))⟩,
    .op ⟨(some 14), (.idxS (.tmp 13) (.av (.int .i64 0))), (some (12, false))⟩,
    .op ⟨(some 15), (.conv .i32 (.tmp 14)), (some (12, false))⟩,
    .op ⟨(some 16), (.call 130 [(.tmp 15)]), (some (12, false))⟩,
    .op ⟨(some 17), (.un .not (.tmp 16)), (some (12, false))⟩,
    .op ⟨(some 18), (.pick (.tmp 12) (.av (.bool true)) (.tmp 17)), none⟩]
def r_f101_2 : List SOp :=
   [.op ⟨(some 2), (.mv (.av (.bool false))), none⟩]
def r_f101_3 : List SOp :=
   [.op ⟨(some 19), (.mv (.tmp 0)), none⟩,
    .op ⟨(some 20), (.rangeS (.tmp 19)), none⟩]
def r_f101_4 : List SOp :=
   [.op ⟨(some 21), (.nextS (.tmp 20)), none⟩,
    .op ⟨(some 22), (.extract (.tmp 21) 0), none⟩]
def r_f101_5 : List SOp :=
   [.op ⟨(some 23), (.extract (.tmp 21) 2), none⟩,
    .op ⟨(some 4), (.mv (.tmp 23)), none⟩]
def r_f101_6 : List SOp :=
   [.op ⟨(some 24), (.mv (.tmp 4)), none⟩,
    .op ⟨(some 25), (.call 130 [(.tmp 24)]), none⟩,
    .op ⟨(some 26), (.un .not (.tmp 25)), none⟩,
    .op ⟨(some 27), (.mv (.tmp 26)), none⟩,
    .grp none 27 true
      [.op ⟨(some 28), (.mv (.tmp 4)), (some (27, true))⟩,
      .op ⟨(some 29), (.bin .lss (.tmp 28) (.av (.int .i32 48))), (some (27, true))⟩,
      .op ⟨(some 30), (.mv (.tmp 29)), (some (27, true))⟩,
      .grp (some (27, true)) 30 false
        [.op ⟨(some 31), (.mv (.tmp 4)), (some (30, false))⟩,
        .op ⟨(some 32), (.bin .gtr (.tmp 31) (.av (.int .i32 57))), (some (30, false))⟩]
        33 (.tmp 32)]
      34 (.tmp 33),
    .op ⟨(some 35), (.mv (.tmp 34)), none⟩,
    .grp none 35 true
      [.op ⟨(some 36), (.mv (.tmp 4)), (some (35, true))⟩,
      .op ⟨(some 37), (.bin .neq (.tmp 36) (.av (.int .i32 45))), (some (35, true))⟩]
      38 (.tmp 37)]
def r_f101_7 : List SOp :=
   [.op ⟨(some 2), (.mv (.av (.bool false))), none⟩]
def r_f101_8 : List SOp :=
   [.op ⟨(some 2), (.mv (.av (.bool true))), none⟩]
def c_f101 : LFun := ⟨39, (.seq (.sreg r_f101_0 [])
  (.seq (.seq (.sreg r_f101_1 [true, false, false, false, false, false, false, false, false, false, false, false, false, false])
  (.cond (.tmp 18) (.seq (.sreg r_f101_2 [])
  .ret)
  .skip))
  (.seq (.seq (.sreg r_f101_3 [true, false])
  (.block 0 (.loop (.seq (.sreg r_f101_4 [])
  (.seq (.cond (.tmp 22) .skip
  (.exit 0))
  (.block 1 (.seq (.sreg r_f101_5 [true, false])
  (.seq (.sreg r_f101_6 [true, false, false, false, false, false, false])
  (.cond (.tmp 38) (.seq (.sreg r_f101_7 [])
  .ret)
  .skip)))))))))
  (.seq (.sreg r_f101_8 [])
  .ret)))), [(.tmp 2)]⟩
def o_f101 : Nat → Nat → Nat := fun _ _ => 1
theorem c_f101_eq : lowF Tryz.prog o_f101 101 = some c_f101.raw := by kernel_rfl
theorem c_f101_ok : c_f101.code.okc = true := by kernel_rfl
/-! castellan/dn.has -/
def r_f102_0 : List SOp :=
   [.op ⟨(some 3), (.box (.tmp 1)), none⟩,
    .op ⟨(some 4), (.mv (.av (.bool false))), none⟩]
def r_f102_1 : List SOp :=
   [.op ⟨(some 5), (.mv (.tmp 0)), none⟩,
    .op ⟨(some 6), (.mkfn 132 [(.tmp 3)]), none⟩,
    .op ⟨(some 7), (.call 131 [(.tmp 5), (.tmp 6)]), none⟩,
    .op ⟨(some 4), (.mv (.tmp 7)), none⟩]
def c_f102 : LFun := ⟨8, (.seq (.sreg r_f102_0 [])
  (.seq (.sreg r_f102_1 [true, false, false, false])
  .ret)), [(.tmp 4)]⟩
def o_f102 : Nat → Nat → Nat := fun _ _ => 1
theorem c_f102_eq : lowF Tryz.prog o_f102 102 = some c_f102.raw := by kernel_rfl
theorem c_f102_ok : c_f102.code.okc = true := by kernel_rfl
/-! castellan/dn.value -/
def r_f103_0 : List SOp :=
   [.op ⟨(some 2), (.mv (.av (.str []))), none⟩,
    .op ⟨(some 3), (.mv (.av (.str []))), none⟩,
    .op ⟨(some 4), (.mv (.av (.bool false))), none⟩]
def r_f103_1 : List SOp :=
   [.op ⟨(some 5), (.mv (.av (.sl [] 0 (some 0)))), none⟩]
def r_f103_2 : List SOp :=
   [.op ⟨(some 6), (.mv (.av (.bool false))), none⟩]
def r_f103_3 : List SOp :=
   [.op ⟨(some 7), (.mv (.av (.int .i64 0))), none⟩]
def r_f103_4 : List SOp :=
   [.op ⟨(some 11), (.mv (.tmp 7)), none⟩,
    .op ⟨(some 12), (.mv (.tmp 0)), none⟩,
    .op ⟨(some 13), (.len true (.tmp 12)), none⟩,
    .op ⟨(some 14), (.bin .lss (.tmp 11) (.tmp 13)), none⟩,
    .op ⟨(some 15), (.mv (.tmp 14)), none⟩,
    .grp none 15 true
      [.op ⟨(some 16), (.mv (.tmp 0)), (some (15, true))⟩,
      .op ⟨(some 17), (.mv (.tmp 7)), (some (15, true))⟩,
      .op ⟨(some 18), (.idxS (.tmp 16) (.tmp 17)), (some (15, true))⟩,
      .op ⟨(some 19), (.bin .neq (.tmp 18) (.av (.int .u8 44))), (some (15, true))⟩]
      20 (.tmp 19),
    .op ⟨(some 21), (.mv (.tmp 20)), none⟩,
    .grp none 21 true
      [.op ⟨(some 22), (.mv (.tmp 0)), (some (21, true))⟩,
      .op ⟨(some 23), (.mv (.tmp 7)), (some (21, true))⟩,
      .op ⟨(some 24), (.idxS (.tmp 22) (.tmp 23)), (some (21, true))⟩,
      .op ⟨(some 25), (.bin .neq (.tmp 24) (.av (.int .u8 43))), (some (21, true))⟩]
      26 (.tmp 25)]
def r_f103_5 : List SOp :=
   [.op ⟨(some 27), (.mv (.tmp 0)), none⟩,
    .op ⟨(some 28), (.mv (.tmp 7)), none⟩,
    .op ⟨(some 29), (.idxS (.tmp 27) (.tmp 28)), none⟩,
    .op ⟨(some 8), (.mv (.tmp 29)), none⟩]
def r_f103_6 : List SOp :=
   [.op ⟨(some 30), (.mv (.tmp 8)), none⟩,
    .op ⟨(some 31), (.bin .eql (.tmp 30) (.av (.int .u8 32))), none⟩,
    .op ⟨(some 6), (.mv (.tmp 31)), none⟩]
def r_f103_7 : List SOp :=
   [.op ⟨(some 33), (.mv (.tmp 8)), none⟩,
    .op ⟨(some 34), (.bin .neq (.tmp 33) (.av (.int .u8 92))), none⟩,
    .op ⟨(some 32), (.mv (.tmp 34)), none⟩]
def r_f103_8 : List SOp :=
   [.op ⟨(some 35), (.mv (.tmp 8)), none⟩,
    .op ⟨(some 36), (.bin .eql (.tmp 35) (.av (.int .u8 0))), none⟩,
    .op ⟨(some 37), (.mv (.tmp 36)), none⟩,
    .op ⟨(some 38), (.mv (.tmp 8)), (some (37, false))⟩,
    .op ⟨(some 39), (.call 133 [(.av (.str [34, 59, 60, 62])), (.tmp 38)]), (some (37, false))⟩,
    .op ⟨(some 40), (.bin .geq (.tmp 39) (.av (.int .i64 0))), (some (37, false))⟩,
    .op ⟨(some 41), (.pick (.tmp 37) (.av (.bool true)) (.tmp 40)), none⟩,
    .op ⟨(some 42), (.mv (.tmp 41)), none⟩,
    .op ⟨(some 43), (.mv (.tmp 5)), (some (42, false))⟩,
    .op ⟨(some 44), (.len false (.tmp 43)), (some (42, false))⟩,
    .op ⟨(some 45), (.bin .eql (.tmp 44) (.av (.int .i64 0))), (some (42, false))⟩,
    .op ⟨(some 46), (.mv (.tmp 45)), (some (42, false))⟩,
    .op ⟨(some 47), (.mv (.tmp 8)), (some (46, true))⟩,
    .op ⟨(some 48), (.bin .eql (.tmp 47) (.av (.int .u8 32))), (some (46, true))⟩,
    .op ⟨(some 49), (.mv (.tmp 48)), (some (46, true))⟩,
    .op ⟨(some 50), (.mv (.tmp 8)), (some (49, false))⟩,
    .op ⟨(some 51), (.bin .eql (.tmp 50) (.av (.int .u8 35))), (some (49, false))⟩,
    .op ⟨(some 52), (.pick (.tmp 49) (.av (.bool true)) (.tmp 51)), (some (46, true))⟩,
    .op ⟨(some 53), (.pick (.tmp 46) (.tmp 52) (.av (.bool false))), (some (42, false))⟩,
    .op ⟨(some 54), (.pick (.tmp 42) (.av (.bool true)) (.tmp 53)), none⟩]
def r_f103_9 : List SOp :=
   [.op ⟨(some 2), (.mv (.av (.str []))), none⟩,
    .op ⟨(some 3), (.mv (.av (.str []))), none⟩,
    .op ⟨(some 4), (.mv (.av (.bool false))), none⟩]
def r_f103_10 : List SOp :=
   [.op ⟨(some 56), (.mv (.tmp 7)), none⟩,
    .op ⟨(some 57), (.bin .add (.tmp 56) (.av (.int .i64 1))), none⟩,
    .op ⟨(some 58), (.mv (.tmp 0)), none⟩,
    .op ⟨(some 59), (.len true (.tmp 58)), none⟩,
    .op ⟨(some 60), (.bin .lss (.tmp 57) (.tmp 59)), none⟩,
    .op ⟨(some 61), (.mv (.tmp 60)), none⟩,
    .op ⟨(some 62), (.mv (.tmp 0)), (some (61, true))⟩,
    .op ⟨(some 63), (.mv (.tmp 7)), (some (61, true))⟩,
    .op ⟨(some 64), (.bin .add (.tmp 63) (.av (.int .i64 1))), (some (61, true))⟩,
    .op ⟨(some 65), (.idxS (.tmp 62) (.tmp 64)), (some (61, true))⟩,
    .op ⟨(some 66), (.call 133 [(.av (.str [34, 43, 44, 59, 60, 62, 92, 32, 35, 61])), (.tmp 65)]), (some (61, true))⟩,
    .op ⟨(some 67), (.bin .geq (.tmp 66) (.av (.int .i64 0))), (some (61, true))⟩,
    .op ⟨(some 68), (.pick (.tmp 61) (.tmp 67) (.av (.bool false))), none⟩,
    .op ⟨(some 55), (.mv (.tmp 68)), none⟩]
def r_f103_11 : List SOp :=
   [.op ⟨(some 69), (.mv (.tmp 7)), none⟩,
    .op ⟨(some 70), (.bin .add (.tmp 69) (.av (.int .i64 1))), none⟩,
    .op ⟨(some 7), (.mv (.tmp 70)), none⟩]
def r_f103_12 : List SOp :=
   [.op ⟨(some 71), (.mv (.tmp 0)), none⟩,
    .op ⟨(some 72), (.mv (.tmp 7)), none⟩,
    .op ⟨(some 73), (.idxS (.tmp 71) (.tmp 72)), none⟩,
    .op ⟨(some 8), (.mv (.tmp 73)), none⟩]
def r_f103_13 : List SOp :=
   [.op ⟨(some 75), (.mv (.tmp 7)), none⟩,
    .op ⟨(some 76), (.bin .add (.tmp 75) (.av (.int .i64 2))), none⟩,
    .op ⟨(some 77), (.mv (.tmp 0)), none⟩,
    .op ⟨(some 78), (.len true (.tmp 77)), none⟩,
    .op ⟨(some 79), (.bin .lss (.tmp 76) (.tmp 78)), none⟩,
    .op ⟨(some 74), (.mv (.tmp 79)), none⟩]
def r_f103_14 : List SOp :=
   [.op ⟨(some 81), (.mv (.tmp 0)), none⟩,
    .op ⟨(some 82), (.mv (.tmp 7)), none⟩,
    .op ⟨(some 83), (.bin .add (.tmp 82) (.av (.int .i64 1))), none⟩,
    .op ⟨(some 84), (.mv (.tmp 7)), none⟩,
    .op ⟨(some 85), (.bin .add (.tmp 84) (.av (.int .i64 3))), none⟩,
    .op ⟨(some 86), (.slS (.tmp 81) (some (.tmp 83)) (some (.tmp 85))), none⟩,
    .op ⟨(some 87), (.call 134 [(.tmp 86)]), none⟩,
    .op ⟨(some 80), (.mv (.tmp 87)), none⟩,
    .op ⟨(some 88), (.extract (.tmp 80) 0), none⟩,
    .op ⟨(some 89), (.extract (.tmp 80) 1), none⟩,
    .op ⟨(some 9), (.mv (.tmp 88)), none⟩,
    .op ⟨(some 10), (.mv (.tmp 89)), none⟩]
def r_f103_15 : List SOp :=
   [.op ⟨(some 90), (.mv (.tmp 10)), none⟩,
    .op ⟨(some 91), (.un .not (.tmp 90)), none⟩]
def r_f103_16 : List SOp :=
   [.op ⟨(some 2), (.mv (.av (.str []))), none⟩,
    .op ⟨(some 3), (.mv (.av (.str []))), none⟩,
    .op ⟨(some 4), (.mv (.av (.bool false))), none⟩]
def r_f103_17 : List SOp :=
   [.op ⟨(some 92), (.mv (.tmp 9)), none⟩,
    .op ⟨(some 93), (.idxS (.tmp 92) (.av (.int .i64 0))), none⟩,
    .op ⟨(some 8), (.mv (.tmp 93)), none⟩]
def r_f103_18 : List SOp :=
   [.op ⟨(some 94), (.mv (.tmp 7)), none⟩,
    .op ⟨(some 95), (.bin .add (.tmp 94) (.av (.int .i64 2))), none⟩,
    .op ⟨(some 7), (.mv (.tmp 95)), none⟩]
def r_f103_19 : List SOp :=
   [.op ⟨(some 2), (.mv (.av (.str []))), none⟩,
    .op ⟨(some 3), (.mv (.av (.str []))), none⟩,
    .op ⟨(some 4), (.mv (.av (.bool false))), none⟩]
def r_f103_20 : List SOp :=
   [.op ⟨(some 96), (.mv (.tmp 5)), none⟩,
    .op ⟨(some 97), (.mv (.tmp 8)), none⟩,
    .op ⟨(some 98), (.bslice false 1 1 [(.int .u8 0)] [(0, 1, (.tmp 97))]), none⟩,
    .op ⟨(some 99), (.app 1 1 1 [(.int .u8 0)] (.tmp 96) (.tmp 98)), none⟩,
    .op ⟨(some 5), (.mv (.tmp 99)), none⟩]
def r_f103_21 : List SOp :=
   [.op ⟨(some 100), (.mv (.tmp 7)), none⟩,
    .op ⟨(some 101), (.bin .add (.tmp 100) (.av (.int .i64 1))), none⟩,
    .op ⟨(some 7), (.mv (.tmp 101)), none⟩]
def r_f103_22 : List SOp :=
   [.op ⟨(some 102), (.mv (.tmp 5)), none⟩,
    .op ⟨(some 103), (.b2s (.tmp 102)), none⟩,
    .op ⟨(some 104), (.mv (.tmp 0)), none⟩,
    .op ⟨(some 105), (.mv (.tmp 7)), none⟩,
    .op ⟨(some 106), (.slS (.tmp 104) (some (.tmp 105)) none), none⟩,
    .op ⟨(some 107), (.mv (.tmp 6)), none⟩,
    .op ⟨(some 108), (.un .not (.tmp 107)), none⟩,
    .op ⟨(some 2), (.mv (.tmp 103)), none⟩,
    .op ⟨(some 3), (.mv (.tmp 106)), none⟩,
    .op ⟨(some 4), (.mv (.tmp 108)), none⟩]
def c_f103 : LFun := ⟨109, (.seq (.sreg r_f103_0 [])
  (.seq (.sreg r_f103_1 [])
  (.seq (.sreg r_f103_2 [])
  (.seq (.sreg r_f103_3 [])
  (.seq (.block 0 (.loop (.seq (.seq (.sreg r_f103_4 [true, false, false, false, false, false, false, false])
  (.cond (.tmp 26) .skip
  (.exit 0)))
  (.block 1 (.seq (.sreg r_f103_5 [true, false, false, false])
  (.seq (.sreg r_f103_6 [true, false, false])
  (.seq (.block 2 (.seq (.sreg r_f103_7 [true, false, false])
  (.cond (.tmp 32) (.seq (.sreg r_f103_8 [true, false, false, false, false, false, false, false, false, false, false, false, false, false, false, false, false, false, false, false])
  (.cond (.tmp 54) (.seq (.sreg r_f103_9 [])
  .ret)
  .skip))
  (.seq (.sreg r_f103_10 [true, false, false, false, false, false, false, false, false, false, false, false, false, false])
  (.cond (.tmp 55) (.seq (.sreg r_f103_11 [true, false, false])
  (.sreg r_f103_12 [true, false, false, false]))
  (.seq (.sreg r_f103_13 [true, false, false, false, false, false])
  (.cond (.tmp 74) (.seq (.sreg r_f103_14 [true, true, false, false, false, false, false, false, false, false, false, false])
  (.seq (.seq (.sreg r_f103_15 [true, false])
  (.cond (.tmp 91) (.seq (.sreg r_f103_16 [])
  .ret)
  .skip))
  (.seq (.sreg r_f103_17 [true, false, false])
  (.sreg r_f103_18 [true, false, false]))))
  (.seq (.sreg r_f103_19 [])
  .ret))))))))
  (.seq (.sreg r_f103_20 [true, false, false, false, false])
  (.sreg r_f103_21 [true, false, false])))))))))
  (.seq (.sdreg r_f103_22 [.pure, (.read 0 0), .pure, .pure, (.read 0 0), .pure, .pure, .pure, .pure] [true, true, true, false, false, false, false, false, false, false])
  .ret)))))), [(.tmp 2), (.tmp 3), (.tmp 4)]⟩
def o_f103 : Nat → Nat → Nat := fun _ _ => 1
theorem c_f103_eq : lowF Tryz.prog o_f103 103 = some c_f103.raw := by kernel_rfl
theorem c_f103_ok : c_f103.code.okc = true := by kernel_rfl
/-! castellan/dn.Print -/
def r_f104_0 : List SOp :=
   [.op ⟨(some 2), (.mv (.av (.str []))), none⟩,
    .op ⟨(some 3), (.mv (.av (.int .i64 0))), none⟩]
def r_f104_1 : List SOp :=
   [.op ⟨(some 11), (.mv (.tmp 0)), none⟩,
    .op ⟨(some 12), (.call 135 [(.tmp 11)]), none⟩,
    .op ⟨(some 4), (.mv (.tmp 12)), none⟩]
def r_f104_2 : List SOp :=
   [.op ⟨(some 13), (.mv (.tmp 4)), none⟩,
    .op ⟨(some 14), (.bin .neq (.tmp 13) (.av (.int .i64 0))), none⟩]
def r_f104_3 : List SOp :=
   [.op ⟨(some 15), (.mv (.tmp 4)), none⟩,
    .op ⟨(some 2), (.mv (.av (.str []))), none⟩,
    .op ⟨(some 3), (.mv (.tmp 15)), none⟩]
def r_f104_4 : List SOp :=
   [.op ⟨(some 5), (.mv (.av (.int .i64 0))), none⟩]
def r_f104_5 : List SOp :=
   [.op ⟨(some 16), (.mv (.tmp 0)), none⟩,
    .op ⟨(some 17), (.len false (.tmp 16)), none⟩,
    .op ⟨(some 18), (.mv (.av (.int .i64 0))), none⟩]
def r_f104_6 : List SOp :=
   [.op ⟨(some 19), (.bin .lss (.tmp 18) (.tmp 17)), none⟩]
def r_f104_7 : List SOp :=
   [.op ⟨(some 20), (.iaddr 1 (.tmp 16) (.tmp 18)), none⟩,
    .op ⟨(some 21), (.load false 1 (.tmp 20)), none⟩,
    .op ⟨(some 7), (.mv (.tmp 21)), none⟩]
def r_f104_8 : List SOp :=
   [.op ⟨(some 22), (.mv (.tmp 7)), none⟩,
    .op ⟨(some 23), (.len false (.tmp 22)), none⟩,
    .op ⟨(some 24), (.mv (.av (.int .i64 0))), none⟩]
def r_f104_9 : List SOp :=
   [.op ⟨(some 25), (.bin .lss (.tmp 24) (.tmp 23)), none⟩]
def r_f104_10 : List SOp :=
   [.op ⟨(some 26), (.iaddr 2 (.tmp 22) (.tmp 24)), none⟩,
    .op ⟨(some 27), (.load true 2 (.tmp 26)), none⟩,
    .op ⟨(some 9), (.alloc [(.str []), (.str [])]), none⟩,
    .op ⟨none, (.store 2 (.tmp 9) (.tmp 27)), none⟩]
def r_f104_11 : List SOp :=
   [.op ⟨(some 28), (.faddr 1 (.tmp 9)), none⟩,
    .op ⟨(some 29), (.load false 1 (.tmp 28)), none⟩,
    .op ⟨(some 30), (.len true (.tmp 29)), none⟩,
    .op ⟨(some 31), (.bin .gtr (.tmp 30) (.av (.int .i64 4096))), none⟩]
def r_f104_12 : List SOp :=
   [.op ⟨(some 2), (.mv (.av (.str []))), none⟩,
    .op ⟨(some 3), (.mv (.av (.int .i64 5))), none⟩]
def r_f104_13 : List SOp :=
   [.op ⟨(some 32), (.mv (.tmp 5)), none⟩,
    .op ⟨(some 33), (.bin .add (.tmp 32) (.av (.int .i64 1))), none⟩,
    .op ⟨(some 5), (.mv (.tmp 33)), none⟩]
def r_f104_14 : List SOp :=
   [.op ⟨(some 34), (.bin .add (.tmp 24) (.av (.int .i64 1))), none⟩,
    .op ⟨(some 24), (.mv (.tmp 34)), none⟩]
def r_f104_15 : List SOp :=
   [.op ⟨(some 35), (.bin .add (.tmp 18) (.av (.int .i64 1))), none⟩,
    .op ⟨(some 18), (.mv (.tmp 35)), none⟩]
def r_f104_16 : List SOp :=
   [.op ⟨(some 36), (.mv (.tmp 0)), none⟩,
    .op ⟨(some 37), (.call 105 [(.tmp 36), (.av (.bool false))]), none⟩,
    .op ⟨(some 10), (.mv (.tmp 37)), none⟩]
def r_f104_17 : List SOp :=
   [.op ⟨(some 38), (.mv (.tmp 10)), none⟩,
    .op ⟨(some 39), (.len true (.tmp 38)), none⟩,
    .op ⟨(some 40), (.bin .gtr (.tmp 39) (.av (.int .i64 4096))), none⟩]
def r_f104_18 : List SOp :=
   [.op ⟨(some 2), (.mv (.av (.str []))), none⟩,
    .op ⟨(some 3), (.mv (.av (.int .i64 5))), none⟩]
def r_f104_19 : List SOp :=
   [.op ⟨(some 41), (.mv (.tmp 10)), none⟩,
    .op ⟨(some 2), (.mv (.tmp 41)), none⟩,
    .op ⟨(some 3), (.mv (.av (.int .i64 0))), none⟩]
def c_f104 : LFun := ⟨42, (.seq (.sreg r_f104_0 [])
  (.seq (.seq (.sreg r_f104_1 [true, false, false])
  (.seq (.sreg r_f104_2 [true, false])
  (.cond (.tmp 14) (.seq (.sreg r_f104_3 [true, true, false])
  .ret)
  .skip)))
  (.seq (.sreg r_f104_4 [])
  (.seq (.seq (.sreg r_f104_5 [])
  (.block 0 (.loop (.seq (.sreg r_f104_6 [])
  (.seq (.cond (.tmp 19) .skip
  (.exit 0))
  (.seq (.block 1 (.seq (.sreg r_f104_7 [true, false, false])
  (.seq (.sreg r_f104_8 [])
  (.block 2 (.loop (.seq (.sreg r_f104_9 [])
  (.seq (.cond (.tmp 25) .skip
  (.exit 2))
  (.seq (.block 3 (.seq (.sreg r_f104_10 [true, false, false])
  (.seq (.seq (.sreg r_f104_11 [true, false, false, false])
  (.cond (.tmp 31) (.seq (.sreg r_f104_12 [])
  .ret)
  .skip))
  (.sreg r_f104_13 [true, false, false]))))
  (.sreg r_f104_14 [true, false])))))))))
  (.sreg r_f104_15 [true, false])))))))
  (.seq (.sreg r_f104_16 [true, false, false])
  (.seq (.seq (.sreg r_f104_17 [true, false, false])
  (.cond (.tmp 40) (.seq (.sreg r_f104_18 [])
  .ret)
  .skip))
  (.seq (.sreg r_f104_19 [true, true, false])
  .ret))))))), [(.tmp 2), (.tmp 3)]⟩
def o_f104 : Nat → Nat → Nat := fun _ _ => 1
theorem c_f104_eq : lowF Tryz.prog o_f104 104 = some c_f104.raw := by kernel_rfl
theorem c_f104_ok : c_f104.code.okc = true := by kernel_rfl
/-! castellan/dn.text -/
def r_f105_0 : List SOp :=
   [.op ⟨(some 4), (.mv (.av (.str []))), none⟩]
def r_f105_1 : List SOp :=
   [.op ⟨(some 5), (.mv (.av (.sl [] 0 (some 0)))), none⟩]
def r_f105_2 : List SOp :=
   [.op ⟨(some 11), (.mv (.tmp 0)), none⟩,
    .op ⟨(some 12), (.len false (.tmp 11)), none⟩,
    .op ⟨(some 13), (.mv (.av (.int .i64 0))), none⟩]
def r_f105_3 : List SOp :=
   [.op ⟨(some 14), (.bin .lss (.tmp 13) (.tmp 12)), none⟩]
def r_f105_4 : List SOp :=
   [.op ⟨(some 15), (.iaddr 1 (.tmp 11) (.tmp 13)), none⟩,
    .op ⟨(some 16), (.load false 1 (.tmp 15)), none⟩,
    .op ⟨(some 7), (.mv (.tmp 16)), none⟩]
def r_f105_5 : List SOp :=
   [.op ⟨(some 8), (.mv (.av (.sl [] 0 (some 0)))), none⟩]
def r_f105_6 : List SOp :=
   [.op ⟨(some 17), (.mv (.tmp 7)), none⟩,
    .op ⟨(some 18), (.len false (.tmp 17)), none⟩,
    .op ⟨(some 19), (.mv (.av (.int .i64 0))), none⟩]
def r_f105_7 : List SOp :=
   [.op ⟨(some 20), (.bin .lss (.tmp 19) (.tmp 18)), none⟩]
def r_f105_8 : List SOp :=
   [.op ⟨(some 21), (.iaddr 2 (.tmp 17) (.tmp 19)), none⟩,
    .op ⟨(some 22), (.load true 2 (.tmp 21)), none⟩,
    .op ⟨(some 10), (.alloc [(.str []), (.str [])]), none⟩,
    .op ⟨none, (.store 2 (.tmp 10) (.tmp 22)), none⟩]
def r_f105_9 : List SOp :=
   [.op ⟨(some 23), (.mv (.tmp 1)), none⟩]
def r_f105_10 : List (LOper × Kd) :=
   [(⟨(some 24), (.faddr 0 (.tmp 10)), none⟩, .pure),
    (⟨(some 25), (.load false 1 (.tmp 24)), none⟩, (.read 0 0)),
    (⟨(some 26), (.call 44 [(.tmp 25)]), none⟩, .eff),
    (⟨(some 27), (.faddr 1 (.tmp 10)), none⟩, .pure),
    (⟨(some 28), (.load false 1 (.tmp 27)), none⟩, (.read 1 0))]
def r_f105_10t : List LOper :=
   [⟨(some 29), (.call 27 [(.tmp 28)]), none⟩,
    ⟨(some 30), (.build [(.str []), (.str [])] [(0, 1, (.tmp 26)), (1, 1, (.tmp 29))]), none⟩,
    ⟨none, (.store 2 (.tmp 10) (.tmp 30)), none⟩]
def r_f105_11 : List (LOper × Kd) :=
   [(⟨(some 31), (.mv (.tmp 8)), none⟩, .pure),
    (⟨(some 32), (.faddr 0 (.tmp 10)), none⟩, .pure),
    (⟨(some 33), (.load false 1 (.tmp 32)), none⟩, (.read 0 1)),
    (⟨(some 34), (.bin .add (.tmp 33) (.av (.str [61]))), none⟩, .pure),
    (⟨(some 35), (.faddr 1 (.tmp 10)), none⟩, .pure),
    (⟨(some 36), (.load false 1 (.tmp 35)), none⟩, (.read 0 0)),
    (⟨(some 37), (.call 136 [(.tmp 36)]), none⟩, .eff),
    (⟨(some 38), (.bin .add (.tmp 34) (.tmp 37)), none⟩, .pure),
    (⟨(some 39), (.bslice false 1 1 [(.str [])] [(0, 1, (.tmp 38))]), none⟩, (.read 0 0))]
def r_f105_11t : List LOper :=
   [⟨(some 40), (.app 1 1 16 [(.str [])] (.tmp 31) (.tmp 39)), none⟩,
    ⟨(some 8), (.mv (.tmp 40)), none⟩]
def r_f105_12 : List SOp :=
   [.op ⟨(some 41), (.bin .add (.tmp 19) (.av (.int .i64 1))), none⟩,
    .op ⟨(some 19), (.mv (.tmp 41)), none⟩]
def r_f105_13 : List SOp :=
   [.op ⟨(some 42), (.mv (.tmp 1)), none⟩]
def r_f105_14 : List SOp :=
   [.op ⟨(some 43), (.mv (.tmp 8)), none⟩,
    .op ⟨(some 44), (.call 137 [(.tmp 43)]), none⟩]
def r_f105_15 : List SOp :=
   [.op ⟨(some 45), (.mv (.tmp 5)), none⟩,
    .op ⟨(some 46), (.mv (.tmp 8)), none⟩,
    .op ⟨(some 47), (.call 138 [(.tmp 46), (.av (.str [43]))]), none⟩,
    .op ⟨(some 48), (.bslice false 1 1 [(.str [])] [(0, 1, (.tmp 47))]), none⟩,
    .op ⟨(some 49), (.app 1 1 16 [(.str [])] (.tmp 45) (.tmp 48)), none⟩,
    .op ⟨(some 5), (.mv (.tmp 49)), none⟩]
def r_f105_16 : List SOp :=
   [.op ⟨(some 50), (.bin .add (.tmp 13) (.av (.int .i64 1))), none⟩,
    .op ⟨(some 13), (.mv (.tmp 50)), none⟩]
def r_f105_17 : List SOp :=
   [.op ⟨(some 51), (.mv (.tmp 5)), none⟩,
    .op ⟨(some 52), (.call 138 [(.tmp 51), (.av (.str [44]))]), none⟩,
    .op ⟨(some 4), (.mv (.tmp 52)), none⟩]
def c_f105 : LFun := ⟨53, (.seq (.sreg r_f105_0 [])
  (.seq (.sreg r_f105_1 [])
  (.seq (.seq (.sreg r_f105_2 [])
  (.block 0 (.loop (.seq (.sreg r_f105_3 [])
  (.seq (.cond (.tmp 14) .skip
  (.exit 0))
  (.seq (.block 1 (.seq (.sreg r_f105_4 [true, false, false])
  (.seq (.sreg r_f105_5 [])
  (.seq (.seq (.sreg r_f105_6 [])
  (.block 2 (.loop (.seq (.sreg r_f105_7 [])
  (.seq (.cond (.tmp 20) .skip
  (.exit 2))
  (.seq (.block 3 (.seq (.sreg r_f105_8 [true, false, false])
  (.seq (.seq (.sreg r_f105_9 [])
  (.cond (.tmp 23) (.dregM r_f105_10 r_f105_10t [false, false, false, false, false, false, false])
  .skip))
  (.dregM r_f105_11 r_f105_11t [true, false, false, false, false, false, false, false, false, false, false]))))
  (.sreg r_f105_12 [true, false])))))))
  (.seq (.seq (.sreg r_f105_13 [])
  (.cond (.tmp 42) (.sreg r_f105_14 [false, false])
  .skip))
  (.sreg r_f105_15 [true, false, false, false, false, false]))))))
  (.sreg r_f105_16 [true, false])))))))
  (.seq (.sreg r_f105_17 [true, false, false])
  .ret)))), [(.tmp 4)]⟩
def o_f105 : Nat → Nat → Nat := fun r i => if r = 10 ∧ i = 2 then 3 else if r = 10 ∧ i = 5 then 3 else if r = 11 ∧ i = 6 then 3 else 1
theorem c_f105_eq : lowF Tryz.prog o_f105 105 = some c_f105.raw := by kernel_rfl
theorem c_f105_ok : c_f105.code.okc = true := by kernel_rfl
/-! castellan/filt.pieces -/
def r_f139_0 : List SOp :=
   [.op ⟨(some 2), (.mv (.av (.bool false))), none⟩]
def r_f139_1 : List SOp :=
   [.op ⟨(some 5), (.mv (.tmp 0)), none⟩,
    .op ⟨(some 6), (.len false (.tmp 5)), none⟩,
    .op ⟨(some 7), (.mv (.av (.int .i64 0))), none⟩]
def r_f139_2 : List SOp :=
   [.op ⟨(some 8), (.bin .lss (.tmp 7) (.tmp 6)), none⟩]
def r_f139_3 : List SOp :=
   [.op ⟨(some 9), (.mv (.tmp 7)), none⟩,
    .op ⟨(some 10), (.iaddr 2 (.tmp 5) (.tmp 7)), none⟩,
    .op ⟨(some 11), (.load true 2 (.tmp 10)), none⟩,
    .op ⟨(some 4), (.alloc [(.int .i64 0), (.str [])]), none⟩,
    .op ⟨(some 3), (.mv (.tmp 9)), none⟩,
    .op ⟨none, (.store 2 (.tmp 4) (.tmp 11)), none⟩]
def r_f139_4 : List SOp :=
   [.op ⟨(some 13), (.faddr 1 (.tmp 4)), none⟩,
    .op ⟨(some 14), (.load false 1 (.tmp 13)), none⟩,
    .op ⟨(some 15), (.bin .eql (.tmp 14) (.av (.str []))), none⟩,
    .op ⟨(some 16), (.mv (.tmp 15)), none⟩,
    .grp none 16 false
      [.op ⟨(some 17), (.faddr 0 (.tmp 4)), (some (16, false))⟩,
      .op ⟨(some 18), (.load false 1 (.tmp 17)), (some (16, false))⟩,
      .op ⟨(some 19), (.bin .lss (.tmp 18) (.av (.int .i64 0))), (some (16, false))⟩]
      20 (.tmp 19),
    .op ⟨(some 21), (.mv (.tmp 20)), none⟩,
    .grp none 21 false
      [.op ⟨(some 22), (.faddr 0 (.tmp 4)), (some (21, false))⟩,
      .op ⟨(some 23), (.load false 1 (.tmp 22)), (some (21, false))⟩,
      .op ⟨(some 24), (.bin .gtr (.tmp 23) (.av (.int .i64 2))), (some (21, false))⟩]
      25 (.tmp 24),
    .op ⟨(some 12), (.mv (.tmp 25)), none⟩]
def r_f139_5 : List SOp :=
   [.op ⟨(some 2), (.mv (.av (.bool false))), none⟩]
def r_f139_6 : List SOp :=
   [.op ⟨(some 27), (.faddr 0 (.tmp 4)), none⟩,
    .op ⟨(some 28), (.load false 1 (.tmp 27)), none⟩,
    .op ⟨(some 29), (.bin .eql (.tmp 28) (.av (.int .i64 0))), none⟩,
    .op ⟨(some 30), (.mv (.tmp 29)), none⟩,
    .grp none 30 true
      [.op ⟨(some 31), (.mv (.tmp 3)), (some (30, true))⟩,
      .op ⟨(some 32), (.bin .gtr (.tmp 31) (.av (.int .i64 0))), (some (30, true))⟩]
      33 (.tmp 32),
    .op ⟨(some 34), (.mv (.tmp 33)), none⟩,
    .grp none 34 false
      [.op ⟨(some 35), (.faddr 0 (.tmp 4)), (some (34, false))⟩,
      .op ⟨(some 36), (.load false 1 (.tmp 35)), (some (34, false))⟩,
      .op ⟨(some 37), (.bin .eql (.tmp 36) (.av (.int .i64 2))), (some (34, false))⟩,
      .op ⟨(some 38), (.mv (.tmp 37)), (some (34, false))⟩,
      .grp (some (34, false)) 38 true
        [.op ⟨(some 39), (.mv (.tmp 3)), (some (38, true))⟩,
        .op ⟨(some 40), (.mv (.tmp 0)), (some (38, true))⟩,
        .op ⟨(some 41), (.len false (.tmp 40)), (some (38, true))⟩,
        .op ⟨(some 42), (.bin .sub (.tmp 41) (.av (.int .i64 1))), (some (38, true))⟩,
        .op ⟨(some 43), (.bin .lss (.tmp 39) (.tmp 42)), (some (38, true))⟩]
        44 (.tmp 43)]
      45 (.tmp 44),
    .op ⟨(some 26), (.mv (.tmp 45)), none⟩]
def r_f139_7 : List SOp :=
   [.op ⟨(some 2), (.mv (.av (.bool false))), none⟩]
def r_f139_8 : List SOp :=
   [.op ⟨(some 46), (.bin .add (.tmp 7) (.av (.int .i64 1))), none⟩,
    .op ⟨(some 7), (.mv (.tmp 46)), none⟩]
def r_f139_9 : List SOp :=
   [.op ⟨(some 47), (.mv (.tmp 0)), none⟩,
    .op ⟨(some 48), (.len false (.tmp 47)), none⟩,
    .op ⟨(some 49), (.bin .gtr (.tmp 48) (.av (.int .i64 0))), none⟩,
    .op ⟨(some 2), (.mv (.tmp 49)), none⟩]
def c_f139 : LFun := ⟨50, (.seq (.sreg r_f139_0 [])
  (.seq (.seq (.sreg r_f139_1 [])
  (.block 0 (.loop (.seq (.sreg r_f139_2 [])
  (.seq (.cond (.tmp 8) .skip
  (.exit 0))
  (.seq (.block 1 (.seq (.sreg r_f139_3 [true, true, false, false, false])
  (.block 2 (.seq (.sreg r_f139_4 [true, false, false, false, false, false, false, false])
  (.cond (.tmp 12) (.seq (.sreg r_f139_5 [])
  .ret)
  (.seq (.sreg r_f139_6 [true, false, false, false, false, false, false, false])
  (.cond (.tmp 26) (.seq (.sreg r_f139_7 [])
  .ret)
  .skip)))))))
  (.sreg r_f139_8 [true, false])))))))
  (.seq (.sreg r_f139_9 [true, false, false, false])
  .ret))), [(.tmp 2)]⟩
def o_f139 : Nat → Nat → Nat := fun _ _ => 1
theorem c_f139_eq : lowF Tryz.prog o_f139 139 = some c_f139.raw := by kernel_rfl
theorem c_f139_ok : c_f139.code.okc = true := by kernel_rfl
/-! internal/stringslite.IndexByte -/
def r_f140_0 : List SOp :=
   [.op ⟨(some 4), (.mv (.av (.int .i64 0))), none⟩]
def r_f140_1 : List SOp :=
   [.op ⟨(some 5), (.mv (.tmp 0)), none⟩,
    .op ⟨(some 6), (.mv (.tmp 1)), none⟩,
    .op ⟨(some 7), (.call 169 [(.tmp 5), (.tmp 6)]), none⟩,
    .op ⟨(some 4), (.mv (.tmp 7)), none⟩]
def c_f140 : LFun := ⟨8, (.seq (.sreg r_f140_0 [])
  (.seq (.sreg r_f140_1 [true, false, false, false])
  .ret)), [(.tmp 4)]⟩
def o_f140 : Nat → Nat → Nat := fun _ _ => 1
theorem c_f140_eq : lowF Tryz.prog o_f140 140 = some c_f140.raw := by kernel_rfl
theorem c_f140_ok : c_f140.code.okc = true := by kernel_rfl
/-! internal/bytealg.Cutover -/
def r_f142_0 : List SOp :=
   [.op ⟨(some 2), (.mv (.av (.int .i64 0))), none⟩]
def r_f142_1 : List SOp :=
   [.op ⟨(some 3), (.mv (.tmp 0)), none⟩,
    .op ⟨(some 4), (.bin .add (.tmp 3) (.av (.int .i64 16))), none⟩,
    .op ⟨(some 5), (.bin .quo (.tmp 4) (.av (.int .i64 8))), none⟩,
    .op ⟨(some 2), (.mv (.tmp 5)), none⟩]
def c_f142 : LFun := ⟨6, (.seq (.sreg r_f142_0 [])
  (.seq (.sreg r_f142_1 [true, false, false, false])
  .ret)), [(.tmp 2)]⟩
def o_f142 : Nat → Nat → Nat := fun _ _ => 1
theorem c_f142_eq : lowF Tryz.prog o_f142 142 = some c_f142.raw := by kernel_rfl
theorem c_f142_ok : c_f142.code.okc = true := by kernel_rfl
/-! internal/bytealg.IndexRabinKarp[string] -/
def r_f143_0 : List SOp :=
   [.op ⟨(some 4), (.mv (.av (.int .i64 0))), none⟩]
def r_f143_1 : List SOp :=
   [.op ⟨(some 12), (.mv (.tmp 1)), none⟩,
    .op ⟨(some 13), (.call 170 [(.tmp 12)]), none⟩,
    .op ⟨(some 11), (.mv (.tmp 13)), none⟩,
    .op ⟨(some 14), (.extract (.tmp 11) 0), none⟩,
    .op ⟨(some 15), (.extract (.tmp 11) 1), none⟩,
    .op ⟨(some 5), (.mv (.tmp 14)), none⟩,
    .op ⟨(some 6), (.mv (.tmp 15)), none⟩]
def r_f143_2 : List SOp :=
   [.op ⟨(some 16), (.mv (.tmp 1)), none⟩,
    .op ⟨(some 17), (.len true (.tmp 16)), none⟩,
    .op ⟨(some 7), (.mv (.tmp 17)), none⟩]
def r_f143_3 : List SOp :=
   [.op ⟨(some 8), (.mv (.av (.int .u32 0))), none⟩]
def r_f143_4 : List SOp :=
   [.op ⟨(some 9), (.mv (.av (.int .i64 0))), none⟩]
def r_f143_5 : List SOp :=
   [.op ⟨(some 18), (.mv (.tmp 9)), none⟩,
    .op ⟨(some 19), (.mv (.tmp 7)), none⟩,
    .op ⟨(some 20), (.bin .lss (.tmp 18) (.tmp 19)), none⟩]
def r_f143_6 : List SOp :=
   [.op ⟨(some 23), (.mv (.tmp 8)), none⟩,
    .op ⟨(some 24), (.bin .mul (.tmp 23) (.av (.int .u32 16777619))), none⟩,
    .op ⟨(some 25), (.mv (.tmp 0)), none⟩,
    .op ⟨(some 26), (.mv (.tmp 9)), none⟩,
    .op ⟨(some 27), (.idxS (.tmp 25) (.tmp 26)), none⟩,
    .op ⟨(some 28), (.conv .u32 (.tmp 27)), none⟩,
    .op ⟨(some 29), (.bin .add (.tmp 24) (.tmp 28)), none⟩,
    .op ⟨(some 8), (.mv (.tmp 29)), none⟩]
def r_f143_7 : List SOp :=
   [.op ⟨(some 21), (.mv (.tmp 9)), none⟩,
    .op ⟨(some 22), (.bin .add (.tmp 21) (.av (.int .i64 1))), none⟩,
    .op ⟨(some 9), (.mv (.tmp 22)), none⟩]
def r_f143_8 : List SOp :=
   [.op ⟨(some 30), (.mv (.tmp 8)), none⟩,
    .op ⟨(some 31), (.mv (.tmp 5)), none⟩,
    .op ⟨(some 32), (.bin .eql (.tmp 30) (.tmp 31)), none⟩,
    .op ⟨(some 33), (.mv (.tmp 32)), none⟩,
    .grp none 33 true
      [.op ⟨(some 34), (.mv (.tmp 0)), (some (33, true))⟩,
      .op ⟨(some 35), (.mv (.tmp 7)), (some (33, true))⟩,
      .op ⟨(some 36), (.slS (.tmp 34) none (some (.tmp 35))), (some (33, true))⟩,
      .op ⟨(some 37), (.mv (.tmp 1)), (some (33, true))⟩,
      .op ⟨(some 38), (.bin .eql (.tmp 36) (.tmp 37)), (some (33, true))⟩]
      39 (.tmp 38)]
def r_f143_9 : List SOp :=
   [.op ⟨(some 4), (.mv (.av (.int .i64 0))), none⟩]
def r_f143_10 : List SOp :=
   [.op ⟨(some 40), (.mv (.tmp 7)), none⟩,
    .op ⟨(some 10), (.mv (.tmp 40)), none⟩]
def r_f143_11 : List SOp :=
   [.op ⟨(some 41), (.mv (.tmp 10)), none⟩,
    .op ⟨(some 42), (.mv (.tmp 0)), none⟩,
    .op ⟨(some 43), (.len true (.tmp 42)), none⟩,
    .op ⟨(some 44), (.bin .lss (.tmp 41) (.tmp 43)), none⟩]
def r_f143_12 : List SOp :=
   [.op ⟨(some 45), (.mv (.tmp 8)), none⟩,
    .op ⟨(some 46), (.bin .mul (.tmp 45) (.av (.int .u32 16777619))), none⟩,
    .op ⟨(some 8), (.mv (.tmp 46)), none⟩]
def r_f143_13 : List SOp :=
   [.op ⟨(some 47), (.mv (.tmp 8)), none⟩,
    .op ⟨(some 48), (.mv (.tmp 0)), none⟩,
    .op ⟨(some 49), (.mv (.tmp 10)), none⟩,
    .op ⟨(some 50), (.idxS (.tmp 48) (.tmp 49)), none⟩,
    .op ⟨(some 51), (.conv .u32 (.tmp 50)), none⟩,
    .op ⟨(some 52), (.bin .add (.tmp 47) (.tmp 51)), none⟩,
    .op ⟨(some 8), (.mv (.tmp 52)), none⟩]
def r_f143_14 : List SOp :=
   [.op ⟨(some 53), (.mv (.tmp 8)), none⟩,
    .op ⟨(some 54), (.mv (.tmp 6)), none⟩,
    .op ⟨(some 55), (.mv (.tmp 0)), none⟩,
    .op ⟨(some 56), (.mv (.tmp 10)), none⟩,
    .op ⟨(some 57), (.mv (.tmp 7)), none⟩,
    .op ⟨(some 58), (.bin .sub (.tmp 56) (.tmp 57)), none⟩,
    .op ⟨(some 59), (.idxS (.tmp 55) (.tmp 58)), none⟩,
    .op ⟨(some 60), (.conv .u32 (.tmp 59)), none⟩,
    .op ⟨(some 61), (.bin .mul (.tmp 54) (.tmp 60)), none⟩,
    .op ⟨(some 62), (.bin .sub (.tmp 53) (.tmp 61)), none⟩,
    .op ⟨(some 8), (.mv (.tmp 62)), none⟩]
def r_f143_15 : List SOp :=
   [.op ⟨(some 63), (.mv (.tmp 10)), none⟩,
    .op ⟨(some 64), (.bin .add (.tmp 63) (.av (.int .i64 1))), none⟩,
    .op ⟨(some 10), (.mv (.tmp 64)), none⟩]
def r_f143_16 : List SOp :=
   [.op ⟨(some 65), (.mv (.tmp 8)), none⟩,
    .op ⟨(some 66), (.mv (.tmp 5)), none⟩,
    .op ⟨(some 67), (.bin .eql (.tmp 65) (.tmp 66)), none⟩,
    .op ⟨(some 68), (.mv (.tmp 67)), none⟩,
    .grp none 68 true
      [.op ⟨(some 69), (.mv (.tmp 0)), (some (68, true))⟩,
      .op ⟨(some 70), (.mv (.tmp 10)), (some (68, true))⟩,
      .op ⟨(some 71), (.mv (.tmp 7)), (some (68, true))⟩,
      .op ⟨(some 72), (.bin .sub (.tmp 70) (.tmp 71)), (some (68, true))⟩,
      .op ⟨(some 73), (.mv (.tmp 10)), (some (68, true))⟩,
      .op ⟨(some 74), (.slS (.tmp 69) (some (.tmp 72)) (some (.tmp 73))), (some (68, true))⟩,
      .op ⟨(some 75), (.mv (.tmp 1)), (some (68, true))⟩,
      .op ⟨(some 76), (.bin .eql (.tmp 74) (.tmp 75)), (some (68, true))⟩]
      77 (.tmp 76)]
def r_f143_17 : List SOp :=
   [.op ⟨(some 78), (.mv (.tmp 10)), none⟩,
    .op ⟨(some 79), (.mv (.tmp 7)), none⟩,
    .op ⟨(some 80), (.bin .sub (.tmp 78) (.tmp 79)), none⟩,
    .op ⟨(some 4), (.mv (.tmp 80)), none⟩]
def r_f143_18 : List SOp :=
   [.op ⟨(some 4), (.mv (.av (.int .i64 (-1)))), none⟩]
def c_f143 : LFun := ⟨81, (.seq (.sreg r_f143_0 [])
  (.seq (.sreg r_f143_1 [true, true, false, false, false, false, false])
  (.seq (.sreg r_f143_2 [true, false, false])
  (.seq (.sreg r_f143_3 [])
  (.seq (.seq (.sreg r_f143_4 [])
  (.block 0 (.loop (.seq (.seq (.sreg r_f143_5 [true, false, false])
  (.cond (.tmp 20) .skip
  (.exit 0)))
  (.seq (.block 1 (.sreg r_f143_6 [true, false, false, false, false, false, false, false]))
  (.sreg r_f143_7 [true, false, false]))))))
  (.seq (.seq (.sreg r_f143_8 [true, false, false, false, false])
  (.cond (.tmp 39) (.seq (.sreg r_f143_9 [])
  .ret)
  .skip))
  (.seq (.seq (.sreg r_f143_10 [true, false])
  (.block 2 (.loop (.seq (.seq (.sreg r_f143_11 [true, false, false, false])
  (.cond (.tmp 44) .skip
  (.exit 2)))
  (.block 3 (.seq (.sreg r_f143_12 [true, false, false])
  (.seq (.sreg r_f143_13 [true, false, false, false, false, false, false])
  (.seq (.sreg r_f143_14 [true, false, false, false, false, false, false, false, false, false, false])
  (.seq (.sreg r_f143_15 [true, false, false])
  (.seq (.sreg r_f143_16 [true, false, false, false, false])
  (.cond (.tmp 77) (.seq (.sreg r_f143_17 [true, false, false, false])
  .ret)
  .skip)))))))))))
  (.seq (.sreg r_f143_18 [])
  .ret)))))))), [(.tmp 4)]⟩
def o_f143 : Nat → Nat → Nat := fun _ _ => 1
theorem c_f143_eq : lowF Tryz.prog o_f143 143 = some c_f143.raw := by kernel_rfl
theorem c_f143_ok : c_f143.code.okc = true := by kernel_rfl
/-! internal/strconv.ParseUint -/
def r_f124_0 : List SOp :=
   [.op ⟨(some 6), (.mv (.av (.int .u64 0))), none⟩,
    .op ⟨(some 7), (.mv (.av .nilif)), none⟩]
def r_f124_1 : List SOp :=
   [.op ⟨(some 18), (.mv (.tmp 0)), none⟩,
    .op ⟨(some 19), (.bin .eql (.tmp 18) (.av (.str []))), none⟩]
def r_f124_2 : List SOp :=
   [.op ⟨(some 20), (.mkif 181 (.av (.int .i64 2))), none⟩,
    .op ⟨(some 6), (.mv (.av (.int .u64 0))), none⟩,
    .op ⟨(some 7), (.mv (.tmp 20)), none⟩]
def r_f124_3 : List SOp :=
   [.op ⟨(some 21), (.mv (.tmp 1)), none⟩,
    .op ⟨(some 22), (.bin .eql (.tmp 21) (.av (.int .i64 0))), none⟩,
    .op ⟨(some 8), (.mv (.tmp 22)), none⟩]
def r_f124_4 : List SOp :=
   [.op ⟨(some 23), (.mv (.tmp 0)), none⟩,
    .op ⟨(some 9), (.mv (.tmp 23)), none⟩]
def r_f124_5 : List SOp :=
   [.op ⟨(some 26), (.mv (.tmp 1)), none⟩,
    .op ⟨(some 27), (.bin .leq (.av (.int .i64 2)) (.tmp 26)), none⟩,
    .op ⟨(some 28), (.mv (.tmp 27)), none⟩,
    .grp none 28 true
      [.op ⟨(some 29), (.mv (.tmp 1)), (some (28, true))⟩,
      .op ⟨(some 30), (.bin .leq (.tmp 29) (.av (.int .i64 36))), (some (28, true))⟩]
      31 (.tmp 30),
    .op ⟨(some 25), (.mv (.tmp 31)), none⟩]
def r_f124_6 : List SOp :=
   [.op ⟨(some 33), (.mv (.tmp 1)), none⟩,
    .op ⟨(some 34), (.bin .eql (.tmp 33) (.av (.int .i64 0))), none⟩,
    .op ⟨(some 32), (.mv (.tmp 34)), none⟩]
def r_f124_7 : List SOp :=
   [.op ⟨(some 1), (.mv (.av (.int .i64 10))), none⟩]
def r_f124_8 : List SOp :=
   [.op ⟨(some 35), (.mv (.tmp 0)), none⟩,
    .op ⟨(some 36), (.idxS (.tmp 35) (.av (.int .i64 0))), none⟩,
    .op ⟨(some 37), (.bin .eql (.tmp 36) (.av (.int .u8 48))), none⟩]
def r_f124_9 : List SOp :=
   [.op ⟨(some 41), (.mv (.tmp 0)), none⟩,
    .op ⟨(some 42), (.len true (.tmp 41)), none⟩,
    .op ⟨(some 43), (.bin .geq (.tmp 42) (.av (.int .i64 3))), none⟩,
    .op ⟨(some 44), (.mv (.tmp 43)), none⟩,
    .op ⟨(some 45), (.mv (.tmp 0)), (some (44, true))⟩,
    .op ⟨(some 46), (.idxS (.tmp 45) (.av (.int .i64 1))), (some (44, true))⟩,
    .op ⟨(some 47), (.call 158 [(.tmp 46)]), (some (44, true))⟩,
    .op ⟨(some 48), (.bin .eql (.tmp 47) (.av (.int .u8 98))), (some (44, true))⟩,
    .op ⟨(some 49), (.pick (.tmp 44) (.tmp 48) (.av (.bool false))), none⟩,
    .op ⟨(some 40), (.mv (.tmp 49)), none⟩]
def r_f124_10 : List SOp :=
   [.op ⟨(some 1), (.mv (.av (.int .i64 2))), none⟩]
def r_f124_11 : List SOp :=
   [.op ⟨(some 50), (.mv (.tmp 0)), none⟩,
    .op ⟨(some 51), (.slS (.tmp 50) (some (.av (.int .i64 2))) none), none⟩,
    .op ⟨(some 0), (.mv (.tmp 51)), none⟩]
def r_f124_12 : List SOp :=
   [.op ⟨(some 53), (.mv (.tmp 0)), none⟩,
    .op ⟨(some 54), (.len true (.tmp 53)), none⟩,
    .op ⟨(some 55), (.bin .geq (.tmp 54) (.av (.int .i64 3))), none⟩,
    .op ⟨(some 56), (.mv (.tmp 55)), none⟩,
    .op ⟨(some 57), (.mv (.tmp 0)), (some (56, true))⟩,
    .op ⟨(some 58), (.idxS (.tmp 57) (.av (.int .i64 1))), (some (56, true))⟩,
    .op ⟨(some 59), (.call 158 [(.tmp 58)]), (some (56, true))⟩,
    .op ⟨(some 60), (.bin .eql (.tmp 59) (.av (.int .u8 111))), (some (56, true))⟩,
    .op ⟨(some 61), (.pick (.tmp 56) (.tmp 60) (.av (.bool false))), none⟩,
    .op ⟨(some 52), (.mv (.tmp 61)), none⟩]
def r_f124_13 : List SOp :=
   [.op ⟨(some 1), (.mv (.av (.int .i64 8))), none⟩]
def r_f124_14 : List SOp :=
   [.op ⟨(some 62), (.mv (.tmp 0)), none⟩,
    .op ⟨(some 63), (.slS (.tmp 62) (some (.av (.int .i64 2))) none), none⟩,
    .op ⟨(some 0), (.mv (.tmp 63)), none⟩]
def r_f124_15 : List SOp :=
   [.op ⟨(some 65), (.mv (.tmp 0)), none⟩,
    .op ⟨(some 66), (.len true (.tmp 65)), none⟩,
    .op ⟨(some 67), (.bin .geq (.tmp 66) (.av (.int .i64 3))), none⟩,
    .op ⟨(some 68), (.mv (.tmp 67)), none⟩,
    .op ⟨(some 69), (.mv (.tmp 0)), (some (68, true))⟩,
    .op ⟨(some 70), (.idxS (.tmp 69) (.av (.int .i64 1))), (some (68, true))⟩,
    .op ⟨(some 71), (.call 158 [(.tmp 70)]), (some (68, true))⟩,
    .op ⟨(some 72), (.bin .eql (.tmp 71) (.av (.int .u8 120))), (some (68, true))⟩,
    .op ⟨(some 73), (.pick (.tmp 68) (.tmp 72) (.av (.bool false))), none⟩,
    .op ⟨(some 64), (.mv (.tmp 73)), none⟩]
def r_f124_16 : List SOp :=
   [.op ⟨(some 1), (.mv (.av (.int .i64 16))), none⟩]
def r_f124_17 : List SOp :=
   [.op ⟨(some 74), (.mv (.tmp 0)), none⟩,
    .op ⟨(some 75), (.slS (.tmp 74) (some (.av (.int .i64 2))) none), none⟩,
    .op ⟨(some 0), (.mv (.tmp 75)), none⟩]
def r_f124_18 : List SOp :=
   [.op ⟨(some 1), (.mv (.av (.int .i64 8))), none⟩]
def r_f124_19 : List SOp :=
   [.op ⟨(some 38), (.mv (.tmp 0)), none⟩,
    .op ⟨(some 39), (.slS (.tmp 38) (some (.av (.int .i64 1))) none), none⟩,
    .op ⟨(some 0), (.mv (.tmp 39)), none⟩]
def r_f124_20 : List SOp :=
   [.op ⟨(some 24), (.mkif 181 (.av (.int .i64 3))), none⟩,
    .op ⟨(some 6), (.mv (.av (.int .u64 0))), none⟩,
    .op ⟨(some 7), (.mv (.tmp 24)), none⟩]
def r_f124_21 : List SOp :=
   [.op ⟨(some 76), (.mv (.tmp 2)), none⟩,
    .op ⟨(some 77), (.bin .eql (.tmp 76) (.av (.int .i64 0))), none⟩]
def r_f124_22 : List SOp :=
   [.op ⟨(some 2), (.mv (.av (.int .i64 64))), none⟩]
def r_f124_23 : List SOp :=
   [.op ⟨(some 78), (.mv (.tmp 2)), none⟩,
    .op ⟨(some 79), (.bin .lss (.tmp 78) (.av (.int .i64 0))), none⟩,
    .op ⟨(some 80), (.mv (.tmp 79)), none⟩,
    .grp none 80 false
      [.op ⟨(some 81), (.mv (.tmp 2)), (some (80, false))⟩,
      .op ⟨(some 82), (.bin .gtr (.tmp 81) (.av (.int .i64 64))), (some (80, false))⟩]
      83 (.tmp 82)]
def r_f124_24 : List SOp :=
   [.op ⟨(some 84), (.mkif 181 (.av (.int .i64 4))), none⟩,
    .op ⟨(some 6), (.mv (.av (.int .u64 0))), none⟩,
    .op ⟨(some 7), (.mv (.tmp 84)), none⟩]
def r_f124_25 : List SOp :=
   [.op ⟨(some 10), (.mv (.av (.int .u64 0))), none⟩]
def r_f124_26 : List SOp :=
   [.op ⟨(some 85), (.mv (.tmp 1)), none⟩]
def r_f124_27 : List SOp :=
   [.op ⟨(some 91), (.bin .eql (.tmp 85) (.av (.int .i64 10))), none⟩,
    .op ⟨(some 90), (.mv (.tmp 91)), none⟩]
def r_f124_28 : List SOp :=
   [.op ⟨(some 10), (.mv (.av (.int .u64 1844674407370955162))), none⟩]
def r_f124_29 : List SOp :=
   [.op ⟨(some 93), (.bin .eql (.tmp 85) (.av (.int .i64 16))), none⟩,
    .op ⟨(some 92), (.mv (.tmp 93)), none⟩]
def r_f124_30 : List SOp :=
   [.op ⟨(some 10), (.mv (.av (.int .u64 1152921504606846976))), none⟩]
def r_f124_31 : List SOp :=
   [.op ⟨(some 86), (.mv (.tmp 1)), none⟩,
    .op ⟨(some 87), (.conv .u64 (.tmp 86)), none⟩,
    .op ⟨(some 88), (.bin .quo (.av (.int .u64 18446744073709551615)) (.tmp 87)), none⟩,
    .op ⟨(some 89), (.bin .add (.tmp 88) (.av (.int .u64 1))), none⟩,
    .op ⟨(some 10), (.mv (.tmp 89)), none⟩]
def r_f124_32 : List SOp :=
   [.op ⟨(some 94), (.mv (.tmp 2)), none⟩,
    .op ⟨(some 95), (.conv .u64 (.tmp 94)), none⟩,
    .op ⟨(some 96), (.bin .shl (.av (.int .u64 1)) (.tmp 95)), none⟩,
    .op ⟨(some 97), (.bin .sub (.tmp 96) (.av (.int .u64 1))), none⟩,
    .op ⟨(some 11), (.mv (.tmp 97)), none⟩]
def r_f124_33 : List SOp :=
   [.op ⟨(some 12), (.mv (.av (.bool false))), none⟩]
def r_f124_34 : List SOp :=
   [.op ⟨(some 13), (.mv (.av (.int .u64 0))), none⟩]
def r_f124_35 : List SOp :=
   [.op ⟨(some 98), (.mv (.tmp 0)), none⟩,
    .op ⟨(some 99), (.s2b (.tmp 98)), none⟩,
    .op ⟨(some 100), (.len false (.tmp 99)), none⟩,
    .op ⟨(some 101), (.mv (.av (.int .i64 0))), none⟩]
def r_f124_36 : List SOp :=
   [.op ⟨(some 102), (.bin .lss (.tmp 101) (.tmp 100)), none⟩]
def r_f124_37 : List SOp :=
   [.op ⟨(some 103), (.iaddr 1 (.tmp 99) (.tmp 101)), none⟩,
    .op ⟨(some 104), (.load false 1 (.tmp 103)), none⟩,
    .op ⟨(some 15), (.mv (.tmp 104)), none⟩]
def r_f124_38 : List SOp :=
   [.op ⟨(some 16), (.mv (.av (.int .u8 0))), none⟩]
def r_f124_39 : List SOp :=
   [.op ⟨(some 107), (.mv (.tmp 15)), none⟩,
    .op ⟨(some 108), (.bin .eql (.tmp 107) (.av (.int .u8 95))), none⟩,
    .op ⟨(some 109), (.mv (.tmp 108)), none⟩,
    .grp none 109 true
      [.op ⟨(some 110), (.mv (.tmp 8)), (some (109, true))⟩]
      111 (.tmp 110),
    .op ⟨(some 106), (.mv (.tmp 111)), none⟩]
def r_f124_40 : List SOp :=
   [.op ⟨(some 12), (.mv (.av (.bool true))), none⟩]
def r_f124_41 : List SOp :=
   [.op ⟨(some 113), (.mv (.tmp 15)), none⟩,
    .op ⟨(some 114), (.bin .leq (.av (.int .u8 48)) (.tmp 113)), none⟩,
    .op ⟨(some 115), (.mv (.tmp 114)), none⟩,
    .grp none 115 true
      [.op ⟨(some 116), (.mv (.tmp 15)), (some (115, true))⟩,
      .op ⟨(some 117), (.bin .leq (.tmp 116) (.av (.int .u8 57))), (some (115, true))⟩]
      118 (.tmp 117),
    .op ⟨(some 112), (.mv (.tmp 118)), none⟩]
def r_f124_42 : List SOp :=
   [.op ⟨(some 119), (.mv (.tmp 15)), none⟩,
    .op ⟨(some 120), (.bin .sub (.tmp 119) (.av (.int .u8 48))), none⟩,
    .op ⟨(some 16), (.mv (.tmp 120)), none⟩]
def r_f124_43 : List SOp :=
   [.op ⟨(some 122), (.mv (.tmp 15)), none⟩,
    .op ⟨(some 123), (.call 158 [(.tmp 122)]), none⟩,
    .op ⟨(some 124), (.bin .leq (.av (.int .u8 97)) (.tmp 123)), none⟩,
    .op ⟨(some 125), (.mv (.tmp 124)), none⟩,
    .op ⟨(some 126), (.mv (.tmp 15)), (some (125, true))⟩,
    .op ⟨(some 127), (.call 158 [(.tmp 126)]), (some (125, true))⟩,
    .op ⟨(some 128), (.bin .leq (.tmp 127) (.av (.int .u8 122))), (some (125, true))⟩,
    .op ⟨(some 129), (.pick (.tmp 125) (.tmp 128) (.av (.bool false))), none⟩,
    .op ⟨(some 121), (.mv (.tmp 129)), none⟩]
def r_f124_44 : List SOp :=
   [.op ⟨(some 130), (.mv (.tmp 15)), none⟩,
    .op ⟨(some 131), (.call 158 [(.tmp 130)]), none⟩,
    .op ⟨(some 132), (.bin .sub (.tmp 131) (.av (.int .u8 97))), none⟩,
    .op ⟨(some 133), (.bin .add (.tmp 132) (.av (.int .u8 10))), none⟩,
    .op ⟨(some 16), (.mv (.tmp 133)), none⟩]
def r_f124_45 : List SOp :=
   [.op ⟨(some 105), (.mkif 181 (.av (.int .i64 2))), none⟩,
    .op ⟨(some 6), (.mv (.av (.int .u64 0))), none⟩,
    .op ⟨(some 7), (.mv (.tmp 105)), none⟩]
def r_f124_46 : List SOp :=
   [.op ⟨(some 134), (.mv (.tmp 16)), none⟩,
    .op ⟨(some 135), (.mv (.tmp 1)), none⟩,
    .op ⟨(some 136), (.conv .u8 (.tmp 135)), none⟩,
    .op ⟨(some 137), (.bin .geq (.tmp 134) (.tmp 136)), none⟩]
def r_f124_47 : List SOp :=
   [.op ⟨(some 138), (.mkif 181 (.av (.int .i64 2))), none⟩,
    .op ⟨(some 6), (.mv (.av (.int .u64 0))), none⟩,
    .op ⟨(some 7), (.mv (.tmp 138)), none⟩]
def r_f124_48 : List SOp :=
   [.op ⟨(some 139), (.mv (.tmp 13)), none⟩,
    .op ⟨(some 140), (.mv (.tmp 10)), none⟩,
    .op ⟨(some 141), (.bin .geq (.tmp 139) (.tmp 140)), none⟩]
def r_f124_49 : List SOp :=
   [.op ⟨(some 142), (.mv (.tmp 11)), none⟩,
    .op ⟨(some 143), (.mkif 181 (.av (.int .i64 1))), none⟩,
    .op ⟨(some 6), (.mv (.tmp 142)), none⟩,
    .op ⟨(some 7), (.mv (.tmp 143)), none⟩]
def r_f124_50 : List SOp :=
   [.op ⟨(some 144), (.mv (.tmp 13)), none⟩,
    .op ⟨(some 145), (.mv (.tmp 1)), none⟩,
    .op ⟨(some 146), (.conv .u64 (.tmp 145)), none⟩,
    .op ⟨(some 147), (.bin .mul (.tmp 144) (.tmp 146)), none⟩,
    .op ⟨(some 13), (.mv (.tmp 147)), none⟩]
def r_f124_51 : List SOp :=
   [.op ⟨(some 148), (.mv (.tmp 13)), none⟩,
    .op ⟨(some 149), (.mv (.tmp 16)), none⟩,
    .op ⟨(some 150), (.conv .u64 (.tmp 149)), none⟩,
    .op ⟨(some 151), (.bin .add (.tmp 148) (.tmp 150)), none⟩,
    .op ⟨(some 17), (.mv (.tmp 151)), none⟩]
def r_f124_52 : List SOp :=
   [.op ⟨(some 152), (.mv (.tmp 17)), none⟩,
    .op ⟨(some 153), (.mv (.tmp 13)), none⟩,
    .op ⟨(some 154), (.bin .lss (.tmp 152) (.tmp 153)), none⟩,
    .op ⟨(some 155), (.mv (.tmp 154)), none⟩,
    .grp none 155 false
      [.op ⟨(some 156), (.mv (.tmp 17)), (some (155, false))⟩,
      .op ⟨(some 157), (.mv (.tmp 11)), (some (155, false))⟩,
      .op ⟨(some 158), (.bin .gtr (.tmp 156) (.tmp 157)), (some (155, false))⟩]
      159 (.tmp 158)]
def r_f124_53 : List SOp :=
   [.op ⟨(some 160), (.mv (.tmp 11)), none⟩,
    .op ⟨(some 161), (.mkif 181 (.av (.int .i64 1))), none⟩,
    .op ⟨(some 6), (.mv (.tmp 160)), none⟩,
    .op ⟨(some 7), (.mv (.tmp 161)), none⟩]
def r_f124_54 : List SOp :=
   [.op ⟨(some 162), (.mv (.tmp 17)), none⟩,
    .op ⟨(some 13), (.mv (.tmp 162)), none⟩]
def r_f124_55 : List SOp :=
   [.op ⟨(some 163), (.bin .add (.tmp 101) (.av (.int .i64 1))), none⟩,
    .op ⟨(some 101), (.mv (.tmp 163)), none⟩]
def r_f124_56 : List SOp :=
   [.op ⟨(some 164), (.mv (.tmp 12)), none⟩,
    .op ⟨(some 165), (.mv (.tmp 164)), none⟩,
    .op ⟨(some 166), (.mv (.tmp 9)), (some (165, true))⟩,
    .op ⟨(some 167), (.call 159 [(.tmp 166)]), (some (165, true))⟩,
    .op ⟨(some 168), (.un .not (.tmp 167)), (some (165, true))⟩,
    .op ⟨(some 169), (.pick (.tmp 165) (.tmp 168) (.av (.bool false))), none⟩]
def r_f124_57 : List SOp :=
   [.op ⟨(some 170), (.mkif 181 (.av (.int .i64 2))), none⟩,
    .op ⟨(some 6), (.mv (.av (.int .u64 0))), none⟩,
    .op ⟨(some 7), (.mv (.tmp 170)), none⟩]
def r_f124_58 : List SOp :=
   [.op ⟨(some 171), (.mv (.tmp 13)), none⟩,
    .op ⟨(some 6), (.mv (.tmp 171)), none⟩,
    .op ⟨(some 7), (.mv (.av .nilif)), none⟩]
def c_f124 : LFun := ⟨172, (.seq (.sreg r_f124_0 [])
  (.seq (.seq (.sreg r_f124_1 [true, false])
  (.cond (.tmp 19) (.seq (.sreg r_f124_2 [true, true, false])
  .ret)
  .skip))
  (.seq (.sreg r_f124_3 [true, false, false])
  (.seq (.sreg r_f124_4 [true, false])
  (.seq (.block 0 (.seq (.sreg r_f124_5 [true, false, false, false, false])
  (.cond (.tmp 25) .skip
  (.seq (.sreg r_f124_6 [true, false, false])
  (.cond (.tmp 32) (.seq (.sreg r_f124_7 [])
  (.seq (.sreg r_f124_8 [true, false, false])
  (.cond (.tmp 37) (.block 1 (.seq (.sreg r_f124_9 [true, false, false, false, false, false, false, false, false, false])
  (.cond (.tmp 40) (.seq (.sreg r_f124_10 [])
  (.sreg r_f124_11 [true, false, false]))
  (.seq (.sreg r_f124_12 [true, false, false, false, false, false, false, false, false, false])
  (.cond (.tmp 52) (.seq (.sreg r_f124_13 [])
  (.sreg r_f124_14 [true, false, false]))
  (.seq (.sreg r_f124_15 [true, false, false, false, false, false, false, false, false, false])
  (.cond (.tmp 64) (.seq (.sreg r_f124_16 [])
  (.sreg r_f124_17 [true, false, false]))
  (.seq (.sreg r_f124_18 [])
  (.sreg r_f124_19 [true, false, false])))))))))
  .skip)))
  (.seq (.sreg r_f124_20 [true, true, false])
  .ret))))))
  (.seq (.seq (.sreg r_f124_21 [true, false])
  (.cond (.tmp 77) (.sreg r_f124_22 [])
  (.seq (.sreg r_f124_23 [true, false, false, false])
  (.cond (.tmp 83) (.seq (.sreg r_f124_24 [true, true, false])
  .ret)
  .skip))))
  (.seq (.sreg r_f124_25 [])
  (.seq (.seq (.sreg r_f124_26 [])
  (.block 2 (.seq (.sreg r_f124_27 [true, false])
  (.cond (.tmp 90) (.sreg r_f124_28 [])
  (.seq (.sreg r_f124_29 [true, false])
  (.cond (.tmp 92) (.sreg r_f124_30 [])
  (.sreg r_f124_31 [true, false, false, false, false])))))))
  (.seq (.sreg r_f124_32 [true, false, false, false, false])
  (.seq (.sreg r_f124_33 [])
  (.seq (.sreg r_f124_34 [])
  (.seq (.seq (.sreg r_f124_35 [true, true, true, false])
  (.block 3 (.loop (.seq (.sreg r_f124_36 [])
  (.seq (.cond (.tmp 102) .skip
  (.exit 3))
  (.seq (.block 4 (.seq (.sreg r_f124_37 [true, false, false])
  (.seq (.sreg r_f124_38 [])
  (.seq (.block 5 (.seq (.sreg r_f124_39 [true, false, false, false, false])
  (.cond (.tmp 106) (.seq (.sreg r_f124_40 [])
  (.exit 4))
  (.seq (.sreg r_f124_41 [true, false, false, false, false])
  (.cond (.tmp 112) (.sreg r_f124_42 [true, false, false])
  (.seq (.sreg r_f124_43 [true, false, false, false, false, false, false, false, false])
  (.cond (.tmp 121) (.sreg r_f124_44 [true, false, false, false, false])
  (.seq (.sreg r_f124_45 [true, true, false])
  .ret))))))))
  (.seq (.seq (.sreg r_f124_46 [true, false, false, false])
  (.cond (.tmp 137) (.seq (.sreg r_f124_47 [true, true, false])
  .ret)
  .skip))
  (.seq (.seq (.sreg r_f124_48 [true, false, false])
  (.cond (.tmp 141) (.seq (.sreg r_f124_49 [true, true, false, false])
  .ret)
  .skip))
  (.seq (.sreg r_f124_50 [true, false, false, false, false])
  (.seq (.sreg r_f124_51 [true, false, false, false, false])
  (.seq (.seq (.sreg r_f124_52 [true, false, false, false, false])
  (.cond (.tmp 159) (.seq (.sreg r_f124_53 [true, true, false, false])
  .ret)
  .skip))
  (.sreg r_f124_54 [true, false]))))))))))
  (.sreg r_f124_55 [true, false])))))))
  (.seq (.seq (.sreg r_f124_56 [true, false, false, false, false, false])
  (.cond (.tmp 169) (.seq (.sreg r_f124_57 [true, true, false])
  .ret)
  .skip))
  (.seq (.sreg r_f124_58 [true, true, false])
  .ret)))))))))))))), [(.tmp 6), (.tmp 7)]⟩
def o_f124 : Nat → Nat → Nat := fun _ _ => 1
theorem c_f124_eq : lowF Tryz.prog o_f124 124 = some c_f124.raw := by kernel_rfl
theorem c_f124_ok : c_f124.code.okc = true := by kernel_rfl
/-! strconv.syntaxError -/
def r_f125_0 : List SOp :=
   [.op ⟨(some 4), (.mv (.av .nilptr)), none⟩]
def r_f125_1 : List (LOper × Kd) :=
   [(⟨(some 5), (.mv (.tmp 0)), none⟩, .pure),
    (⟨(some 6), (.mv (.tmp 1)), none⟩, .pure),
    (⟨(some 7), (.call 160 [(.tmp 6)]), none⟩, .eff),
    (⟨(some 8), (.load false 1 (.av (.gptr 7 0))), none⟩, (.read 1 0))]
def r_f125_1t : List LOper :=
   [⟨(some 9), (.build [(.str []), (.str []), .nilif] [(0, 1, (.tmp 5)), (1, 1, (.tmp 7)), (2, 1, (.tmp 8))]), none⟩,
    ⟨(some 10), (.box (.tmp 9)), none⟩,
    ⟨(some 4), (.mv (.tmp 10)), none⟩]
def c_f125 : LFun := ⟨11, (.seq (.sreg r_f125_0 [])
  (.seq (.dregM r_f125_1 r_f125_1t [true, false, false, false, false, false, false])
  .ret)), [(.tmp 4)]⟩
def o_f125 : Nat → Nat → Nat := fun r i => if r = 1 ∧ i = 2 then 3 else 1
theorem c_f125_eq : lowF Tryz.prog o_f125 125 = some c_f125.raw := by kernel_rfl
theorem c_f125_ok : c_f125.code.okc = true := by kernel_rfl
/-! strconv.rangeError -/
def r_f126_0 : List SOp :=
   [.op ⟨(some 4), (.mv (.av .nilptr)), none⟩]
def r_f126_1 : List (LOper × Kd) :=
   [(⟨(some 5), (.mv (.tmp 0)), none⟩, .pure),
    (⟨(some 6), (.mv (.tmp 1)), none⟩, .pure),
    (⟨(some 7), (.call 160 [(.tmp 6)]), none⟩, .eff),
    (⟨(some 8), (.load false 1 (.av (.gptr 8 0))), none⟩, (.read 1 0))]
def r_f126_1t : List LOper :=
   [⟨(some 9), (.build [(.str []), (.str []), .nilif] [(0, 1, (.tmp 5)), (1, 1, (.tmp 7)), (2, 1, (.tmp 8))]), none⟩,
    ⟨(some 10), (.box (.tmp 9)), none⟩,
    ⟨(some 4), (.mv (.tmp 10)), none⟩]
def c_f126 : LFun := ⟨11, (.seq (.sreg r_f126_0 [])
  (.seq (.dregM r_f126_1 r_f126_1t [true, false, false, false, false, false, false])
  .ret)), [(.tmp 4)]⟩
def o_f126 : Nat → Nat → Nat := fun r i => if r = 1 ∧ i = 2 then 3 else 1
theorem c_f126_eq : lowF Tryz.prog o_f126 126 = some c_f126.raw := by kernel_rfl
theorem c_f126_ok : c_f126.code.okc = true := by kernel_rfl
/-! strconv.baseError -/
def r_f127_0 : List SOp :=
   [.op ⟨(some 6), (.mv (.av .nilptr)), none⟩]
def r_f127_1 : List SOp :=
   [.op ⟨(some 7), (.mv (.tmp 0)), none⟩,
    .op ⟨(some 8), (.mv (.tmp 1)), none⟩,
    .op ⟨(some 9), (.call 160 [(.tmp 8)]), none⟩,
    .op ⟨(some 10), (.mv (.tmp 2)), none⟩,
    .op ⟨(some 11), (.call 162 [(.tmp 10)]), none⟩,
    .op ⟨(some 12), (.bin .add (.av (.str [105, 110, 118, 97, 108, 105, 100, 32, 98, 97, 115, 101, 32])) (.tmp 11)), none⟩,
    .op ⟨(some 13), (.call 161 [(.tmp 12)]), none⟩,
    .op ⟨(some 14), (.build [(.str []), (.str []), .nilif] [(0, 1, (.tmp 7)), (1, 1, (.tmp 9)), (2, 1, (.tmp 13))]), none⟩,
    .op ⟨(some 15), (.box (.tmp 14)), none⟩,
    .op ⟨(some 6), (.mv (.tmp 15)), none⟩]
def c_f127 : LFun := ⟨16, (.seq (.sreg r_f127_0 [])
  (.seq (.sreg r_f127_1 [true, false, false, false, false, false, false, false, false, false])
  .ret)), [(.tmp 6)]⟩
def o_f127 : Nat → Nat → Nat := fun _ _ => 1
theorem c_f127_eq : lowF Tryz.prog o_f127 127 = some c_f127.raw := by kernel_rfl
theorem c_f127_ok : c_f127.code.okc = true := by kernel_rfl
/-! strconv.bitSizeError -/
def r_f128_0 : List SOp :=
   [.op ⟨(some 6), (.mv (.av .nilptr)), none⟩]
def r_f128_1 : List SOp :=
   [.op ⟨(some 7), (.mv (.tmp 0)), none⟩,
    .op ⟨(some 8), (.mv (.tmp 1)), none⟩,
    .op ⟨(some 9), (.call 160 [(.tmp 8)]), none⟩,
    .op ⟨(some 10), (.mv (.tmp 2)), none⟩,
    .op ⟨(some 11), (.call 162 [(.tmp 10)]), none⟩,
    .op ⟨(some 12), (.bin .add (.av (.str [105, 110, 118, 97, 108, 105, 100, 32, 98, 105, 116, 32, 115, 105, 122, 101, 32])) (.tmp 11)), none⟩,
    .op ⟨(some 13), (.call 161 [(.tmp 12)]), none⟩,
    .op ⟨(some 14), (.build [(.str []), (.str []), .nilif] [(0, 1, (.tmp 7)), (1, 1, (.tmp 9)), (2, 1, (.tmp 13))]), none⟩,
    .op ⟨(some 15), (.box (.tmp 14)), none⟩,
    .op ⟨(some 6), (.mv (.tmp 15)), none⟩]
def c_f128 : LFun := ⟨16, (.seq (.sreg r_f128_0 [])
  (.seq (.sreg r_f128_1 [true, false, false, false, false, false, false, false, false, false])
  .ret)), [(.tmp 6)]⟩
def o_f128 : Nat → Nat → Nat := fun _ _ => 1
theorem c_f128_eq : lowF Tryz.prog o_f128 128 = some c_f128.raw := by kernel_rfl
theorem c_f128_ok : c_f128.code.okc = true := by kernel_rfl
/-! internal/strconv.small -/
def r_f61_0 : List SOp :=
   [.op ⟨(some 2), (.mv (.av (.str []))), none⟩]
def r_f61_1 : List SOp :=
   [.op ⟨(some 3), (.mv (.tmp 0)), none⟩,
    .op ⟨(some 4), (.bin .lss (.tmp 3) (.av (.int .i64 10))), none⟩]
def r_f61_2 : List SOp :=
   [.op ⟨(some 5), (.mv (.tmp 0)), none⟩,
    .op ⟨(some 6), (.mv (.tmp 0)), none⟩,
    .op ⟨(some 7), (.bin .add (.tmp 6) (.av (.int .i64 1))), none⟩,
    .op ⟨(some 8), (.slS (.av (.str [48, 49, 50, 51, 52, 53, 54, 55, 56, 57, 97, 98, 99, 100, 101, 102, 103, 104, 105, 106, 107, 108, 109, 110, 111, 112, 113, 114, 115, 116, 117, 118, 119, 120, 121, 122])) (some (.tmp 5)) (some (.tmp 7))), none⟩,
    .op ⟨(some 2), (.mv (.tmp 8)), none⟩]
def r_f61_3 : List SOp :=
   [.op ⟨(some 9), (.mv (.tmp 0)), none⟩,
    .op ⟨(some 10), (.bin .mul (.tmp 9) (.av (.int .i64 2))), none⟩,
    .op ⟨(some 11), (.mv (.tmp 0)), none⟩,
    .op ⟨(some 12), (.bin .mul (.tmp 11) (.av (.int .i64 2))), none⟩,
    .op ⟨(some 13), (.bin .add (.tmp 12) (.av (.int .i64 2))), none⟩,
    .op ⟨(some 14), (.slS (.av (.str [48, 48, 48, 49, 48, 50, 48, 51, 48, 52, 48, 53, 48, 54, 48, 55, 48, 56, 48, 57, 49, 48, 49, 49, 49, 50, 49, 51, 49, 52, 49, 53, 49, 54, 49, 55, 49, 56, 49, 57, 50, 48, 50, 49, 50, 50, 50, 51, 50, 52, 50, 53, 50, 54, 50, 55, 50, 56, 50, 57, 51, 48, 51, 49, 51, 50, 51, 51, 51, 52, 51, 53, 51, 54, 51, 55, 51, 56, 51, 57, 52, 48, 52, 49, 52, 50, 52, 51, 52, 52, 52, 53, 52, 54, 52, 55, 52, 56, 52, 57, 53, 48, 53, 49, 53, 50, 53, 51, 53, 52, 53, 53, 53, 54, 53, 55, 53, 56, 53, 57, 54, 48, 54, 49, 54, 50, 54, 51, 54, 52, 54, 53, 54, 54, 54, 55, 54, 56, 54, 57, 55, 48, 55, 49, 55, 50, 55, 51, 55, 52, 55, 53, 55, 54, 55, 55, 55, 56, 55, 57, 56, 48, 56, 49, 56, 50, 56, 51, 56, 52, 56, 53, 56, 54, 56, 55, 56, 56, 56, 57, 57, 48, 57, 49, 57, 50, 57, 51, 57, 52, 57, 53, 57, 54, 57, 55, 57, 56, 57, 57])) (some (.tmp 10)) (some (.tmp 13))), none⟩,
    .op ⟨(some 2), (.mv (.tmp 14)), none⟩]
def c_f61 : LFun := ⟨15, (.seq (.sreg r_f61_0 [])
  (.seq (.seq (.sreg r_f61_1 [true, false])
  (.cond (.tmp 4) (.seq (.sreg r_f61_2 [true, false, false, false, false])
  .ret)
  .skip))
  (.seq (.sreg r_f61_3 [true, false, false, false, false, false, false])
  .ret))), [(.tmp 2)]⟩
def o_f61 : Nat → Nat → Nat := fun _ _ => 1
theorem c_f61_eq : lowF Tryz.prog o_f61 61 = some c_f61.raw := by kernel_rfl
theorem c_f61_ok : c_f61.code.okc = true := by kernel_rfl
/-! internal/strconv.numDigits -/
def r_f62_0 : List SOp :=
   [.op ⟨(some 2), (.mv (.av (.int .i64 0))), none⟩]
def r_f62_1 : List SOp :=
   [.op ⟨(some 4), (.mv (.tmp 0)), none⟩,
    .op ⟨(some 5), (.call 94 [(.tmp 4)]), none⟩,
    .op ⟨(some 6), (.call 93 [(.tmp 5)]), none⟩,
    .op ⟨(some 3), (.mv (.tmp 6)), none⟩]
def r_f62_2 : List SOp :=
   [.op ⟨(some 7), (.mv (.tmp 3)), none⟩,
    .op ⟨(some 8), (.mv (.tmp 0)), none⟩,
    .op ⟨(some 9), (.mv (.tmp 3)), none⟩,
    .op ⟨(some 10), (.iaddrA 20 1 (.av (.gptr 3 0)) (.tmp 9)), none⟩,
    .op ⟨(some 11), (.load false 1 (.tmp 10)), none⟩,
    .op ⟨(some 12), (.bin .geq (.tmp 8) (.tmp 11)), none⟩,
    .op ⟨(some 13), (.call 95 [(.tmp 12)]), none⟩,
    .op ⟨(some 14), (.bin .add (.tmp 7) (.tmp 13)), none⟩,
    .op ⟨(some 2), (.mv (.tmp 14)), none⟩]
def c_f62 : LFun := ⟨15, (.seq (.sreg r_f62_0 [])
  (.seq (.sreg r_f62_1 [true, false, false, false])
  (.seq (.sreg r_f62_2 [true, false, false, false, false, false, false, false, false])
  .ret))), [(.tmp 2)]⟩
def o_f62 : Nat → Nat → Nat := fun _ _ => 1
theorem c_f62_eq : lowF Tryz.prog o_f62 62 = some c_f62.raw := by kernel_rfl
theorem c_f62_ok : c_f62.code.okc = true := by kernel_rfl

end Go.Proofs.YtpednpndahgleaaGreatDoor.Av
