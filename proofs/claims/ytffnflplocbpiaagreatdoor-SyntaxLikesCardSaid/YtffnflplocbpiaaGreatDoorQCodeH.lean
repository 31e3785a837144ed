/- Bodies of functions, lowered: printed by a program (wip/tools/lower.py); each is held against the program by the kernel. -/
import Derived.Test.YtffnflplocbpiaaGreatDoorQP4
import Derived.Test.YtffnflplocbpiaaGreatDoorRows
import Derived.KernelRfl
set_option maxRecDepth 100000
set_option linter.unusedSimpArgs false
set_option linter.unusedVariables false
namespace Go.Proofs.YtffnflplocbpiaaGreatDoor.Av
open Go

/-! castellan/syntax.moment -/
def r_syntax_moment_0 : List SOp :=
   [.op ⟨(some 1), (.box (.tmp 0)), none⟩,
    .op ⟨(some 2), (.mv (.av (.bool false))), none⟩]
def r_syntax_moment_1 : List SOp :=
   [.op ⟨(some 10), (.load false 1 (.tmp 1)), none⟩,
    .op ⟨(some 11), (.len true (.tmp 10)), none⟩,
    .op ⟨(some 12), (.bin .neq (.tmp 11) (.av (.int .i64 15))), none⟩,
    .op ⟨(some 13), (.mv (.tmp 12)), none⟩,
    .grp none 13 false
      [.op ⟨(some 14), (.load false 1 (.tmp 1)), (some (13, false))⟩,
      .op ⟨(some 15), (.idxS (.tmp 14) (.av (.int .i64 14))), (some (13, false))⟩,
      .op ⟨(some 16), (.bin .neq (.tmp 15) (.av (.int .u8 90))), (some (13, false))⟩]
      17 (.tmp 16)]
def r_syntax_moment_2 : List SOp :=
   [.op ⟨(some 2), (.mv (.av (.bool false))), none⟩]
def r_syntax_moment_3 : List SOp :=
   [.op ⟨(some 18), (.load false 1 (.tmp 1)), none⟩,
    .op ⟨(some 19), (.slS (.tmp 18) none (some (.av (.int .i64 14)))), none⟩,
    .op ⟨(some 20), (.s2b (.tmp 19)), none⟩,
    .op ⟨(some 21), (.len false (.tmp 20)), none⟩,
    .op ⟨(some 22), (.mv (.av (.int .i64 0))), none⟩]
def r_syntax_moment_4 : List SOp :=
   [.op ⟨(some 23), (.bin .lss (.tmp 22) (.tmp 21)), none⟩]
def r_syntax_moment_5 : List SOp :=
   [.op ⟨(some 24), (.iaddr 1 (.tmp 20) (.tmp 22)), none⟩,
    .op ⟨(some 25), (.load false 1 (.tmp 24)), none⟩,
    .op ⟨(some 4), (.mv (.tmp 25)), none⟩]
def r_syntax_moment_6 : List SOp :=
   [.op ⟨(some 26), (.mv (.tmp 4)), none⟩,
    .op ⟨(some 27), (.bin .lss (.tmp 26) (.av (.int .u8 48))), none⟩,
    .op ⟨(some 28), (.mv (.tmp 27)), none⟩,
    .grp none 28 false
      [.op ⟨(some 29), (.mv (.tmp 4)), (some (28, false))⟩,
      .op ⟨(some 30), (.bin .gtr (.tmp 29) (.av (.int .u8 57))), (some (28, false))⟩]
      31 (.tmp 30)]
def r_syntax_moment_7 : List SOp :=
   [.op ⟨(some 2), (.mv (.av (.bool false))), none⟩]
def r_syntax_moment_8 : List SOp :=
   [.op ⟨(some 32), (.bin .add (.tmp 22) (.av (.int .i64 1))), none⟩,
    .op ⟨(some 22), (.mv (.tmp 32)), none⟩]
def r_syntax_moment_9 : List SOp :=
   [.op ⟨(some 33), (.mkfn 44 [(.tmp 1)]), none⟩,
    .op ⟨(some 5), (.mv (.tmp 33)), none⟩]
def r_syntax_moment_10 : List SOp :=
   [.op ⟨(some 34), (.mv (.tmp 5)), none⟩,
    .op ⟨(some 35), (.callv (.tmp 34) [(.av (.int .i64 0))]), none⟩,
    .op ⟨(some 36), (.bin .mul (.tmp 35) (.av (.int .i64 100))), none⟩,
    .op ⟨(some 37), (.mv (.tmp 5)), none⟩,
    .op ⟨(some 38), (.callv (.tmp 37) [(.av (.int .i64 2))]), none⟩,
    .op ⟨(some 39), (.bin .add (.tmp 36) (.tmp 38)), none⟩,
    .op ⟨(some 40), (.mv (.tmp 5)), none⟩,
    .op ⟨(some 41), (.callv (.tmp 40) [(.av (.int .i64 4))]), none⟩,
    .op ⟨(some 42), (.mv (.tmp 5)), none⟩,
    .op ⟨(some 43), (.callv (.tmp 42) [(.av (.int .i64 6))]), none⟩,
    .op ⟨(some 6), (.mv (.tmp 39)), none⟩,
    .op ⟨(some 7), (.mv (.tmp 41)), none⟩,
    .op ⟨(some 8), (.mv (.tmp 43)), none⟩]
def r_syntax_moment_11 : List SOp :=
   [.op ⟨(some 44), (.mv (.tmp 7)), none⟩,
    .op ⟨(some 45), (.bin .lss (.tmp 44) (.av (.int .i64 1))), none⟩,
    .op ⟨(some 46), (.mv (.tmp 45)), none⟩,
    .grp none 46 false
      [.op ⟨(some 47), (.mv (.tmp 7)), (some (46, false))⟩,
      .op ⟨(some 48), (.bin .gtr (.tmp 47) (.av (.int .i64 12))), (some (46, false))⟩]
      49 (.tmp 48),
    .op ⟨(some 50), (.mv (.tmp 49)), none⟩,
    .grp none 50 false
      [.op ⟨(some 51), (.mv (.tmp 8)), (some (50, false))⟩,
      .op ⟨(some 52), (.bin .lss (.tmp 51) (.av (.int .i64 1))), (some (50, false))⟩]
      53 (.tmp 52),
    .op ⟨(some 54), (.mv (.tmp 53)), none⟩,
    .grp none 54 false
      [.op ⟨(some 55), (.mv (.tmp 5)), (some (54, false))⟩,
      .op ⟨(some 56), (.callv (.tmp 55) [(.av (.int .i64 8))]), (some (54, false))⟩,
      .op ⟨(some 57), (.bin .gtr (.tmp 56) (.av (.int .i64 23))), (some (54, false))⟩]
      58 (.tmp 57),
    .op ⟨(some 59), (.mv (.tmp 58)), none⟩,
    .grp none 59 false
      [.op ⟨(some 60), (.mv (.tmp 5)), (some (59, false))⟩,
      .op ⟨(some 61), (.callv (.tmp 60) [(.av (.int .i64 10))]), (some (59, false))⟩,
      .op ⟨(some 62), (.bin .gtr (.tmp 61) (.av (.int .i64 59))), (some (59, false))⟩]
      63 (.tmp 62),
    .op ⟨(some 64), (.mv (.tmp 63)), none⟩,
    .grp none 64 false
      [.op ⟨(some 65), (.mv (.tmp 5)), (some (64, false))⟩,
      .op ⟨(some 66), (.callv (.tmp 65) [(.av (.int .i64 12))]), (some (64, false))⟩,
      .op ⟨(some 67), (.bin .gtr (.tmp 66) (.av (.int .i64 59))), (some (64, false))⟩]
      68 (.tmp 67)]
def r_syntax_moment_12 : List SOp :=
   [.op ⟨(some 2), (.mv (.av (.bool false))), none⟩]
def r_syntax_moment_13 : List SOp :=
   [.op ⟨(some 69), (.mv (.tmp 7)), none⟩,
    .op ⟨(some 70), (.bin .sub (.tmp 69) (.av (.int .i64 1))), none⟩,
    .op ⟨(some 71), (.iaddrA 12 1 (.av (.gptr 2 0)) (.tmp 70)), none⟩,
    .op ⟨(some 72), (.load false 1 (.tmp 71)), none⟩,
    .op ⟨(some 9), (.mv (.tmp 72)), none⟩]
def r_syntax_moment_14 : List SOp :=
   [.op ⟨(some 73), (.mv (.tmp 7)), none⟩,
    .op ⟨(some 74), (.bin .eql (.tmp 73) (.av (.int .i64 2))), none⟩,
    .op ⟨(some 75), (.mv (.tmp 74)), none⟩,
    .grp none 75 true
      [.op ⟨(some 76), (.mv (.tmp 6)), (some (75, true))⟩,
      .op ⟨(some 77), (.bin .rem (.tmp 76) (.av (.int .i64 4))), (some (75, true))⟩,
      .op ⟨(some 78), (.bin .eql (.tmp 77) (.av (.int .i64 0))), (some (75, true))⟩,
      .op ⟨(some 79), (.mv (.tmp 78)), (some (75, true))⟩,
      .grp (some (75, true)) 79 true
        [.op ⟨(some 80), (.mv (.tmp 6)), (some (79, true))⟩,
        .op ⟨(some 81), (.bin .rem (.tmp 80) (.av (.int .i64 100))), (some (79, true))⟩,
        .op ⟨(some 82), (.bin .neq (.tmp 81) (.av (.int .i64 0))), (some (79, true))⟩]
        83 (.tmp 82),
      .op ⟨(some 84), (.mv (.tmp 83)), (some (75, true))⟩,
      .grp (some (75, true)) 84 false
        [.op ⟨(some 85), (.mv (.tmp 6)), (some (84, false))⟩,
        .op ⟨(some 86), (.bin .rem (.tmp 85) (.av (.int .i64 400))), (some (84, false))⟩,
        .op ⟨(some 87), (.bin .eql (.tmp 86) (.av (.int .i64 0))), (some (84, false))⟩]
        88 (.tmp 87)]
      89 (.tmp 88)]
def r_syntax_moment_15 : List SOp :=
   [.op ⟨(some 90), (.mv (.tmp 9)), none⟩,
    .op ⟨(some 91), (.bin .add (.tmp 90) (.av (.int .i64 1))), none⟩,
    .op ⟨(some 9), (.mv (.tmp 91)), none⟩]
def r_syntax_moment_16 : List SOp :=
   [.op ⟨(some 92), (.mv (.tmp 8)), none⟩,
    .op ⟨(some 93), (.mv (.tmp 9)), none⟩,
    .op ⟨(some 94), (.bin .leq (.tmp 92) (.tmp 93)), none⟩,
    .op ⟨(some 2), (.mv (.tmp 94)), none⟩]
def c_syntax_moment : LFun := ⟨95, (.seq (.sreg r_syntax_moment_0 [])
  (.seq (.seq (.sreg r_syntax_moment_1 [true, false, false, false, false])
  (.cond (.tmp 17) (.seq (.sreg r_syntax_moment_2 [])
  .ret)
  .skip))
  (.seq (.seq (.sreg r_syntax_moment_3 [true, true, true, false, false])
  (.block 0 (.loop (.seq (.sreg r_syntax_moment_4 [])
  (.seq (.cond (.tmp 23) .skip
  (.exit 0))
  (.seq (.block 1 (.seq (.sreg r_syntax_moment_5 [true, false, false])
  (.seq (.sreg r_syntax_moment_6 [true, false, false, false])
  (.cond (.tmp 31) (.seq (.sreg r_syntax_moment_7 [])
  .ret)
  .skip))))
  (.sreg r_syntax_moment_8 [true, false])))))))
  (.seq (.sreg r_syntax_moment_9 [true, false])
  (.seq (.sreg r_syntax_moment_10 [true, true, true, false, false, false, false, false, false, false, false, false, false])
  (.seq (.seq (.sreg r_syntax_moment_11 [true, false, false, false, false, false, false, false, false, false, false, false])
  (.cond (.tmp 68) (.seq (.sreg r_syntax_moment_12 [])
  .ret)
  .skip))
  (.seq (.sreg r_syntax_moment_13 [true, false, false, false, false])
  (.seq (.seq (.sreg r_syntax_moment_14 [true, false, false, false])
  (.cond (.tmp 89) (.sreg r_syntax_moment_15 [true, false, false])
  .skip))
  (.seq (.sreg r_syntax_moment_16 [true, false, false, false])
  .ret))))))))), [(.tmp 2)]⟩
attribute [push_cast] r_syntax_moment_0 r_syntax_moment_1 r_syntax_moment_2 r_syntax_moment_3 r_syntax_moment_4 r_syntax_moment_5 r_syntax_moment_6 r_syntax_moment_7 r_syntax_moment_8 r_syntax_moment_9 r_syntax_moment_10 r_syntax_moment_11 r_syntax_moment_12 r_syntax_moment_13 r_syntax_moment_14 r_syntax_moment_15 r_syntax_moment_16
theorem c_syntax_moment_eq : lowF Tryz.prog (fun _ _ => 1) 21 = some c_syntax_moment.raw := by kernel_rfl

/-! castellan/syntax.moment$1 -/
def r_syntax_moment_1_0 : List SOp :=
   [.op ⟨(some 3), (.mv (.av (.int .i64 0))), none⟩]
def r_syntax_moment_1_1 : List SOp :=
   [.op ⟨(some 4), (.load false 1 (.tmp 1)), none⟩,
    .op ⟨(some 5), (.mv (.tmp 0)), none⟩,
    .op ⟨(some 6), (.idxS (.tmp 4) (.tmp 5)), none⟩,
    .op ⟨(some 7), (.bin .sub (.tmp 6) (.av (.int .u8 48))), none⟩,
    .op ⟨(some 8), (.conv .i64 (.tmp 7)), none⟩,
    .op ⟨(some 9), (.bin .mul (.tmp 8) (.av (.int .i64 10))), none⟩,
    .op ⟨(some 10), (.load false 1 (.tmp 1)), none⟩,
    .op ⟨(some 11), (.mv (.tmp 0)), none⟩,
    .op ⟨(some 12), (.bin .add (.tmp 11) (.av (.int .i64 1))), none⟩,
    .op ⟨(some 13), (.idxS (.tmp 10) (.tmp 12)), none⟩,
    .op ⟨(some 14), (.bin .sub (.tmp 13) (.av (.int .u8 48))), none⟩,
    .op ⟨(some 15), (.conv .i64 (.tmp 14)), none⟩,
    .op ⟨(some 16), (.bin .add (.tmp 9) (.tmp 15)), none⟩,
    .op ⟨(some 3), (.mv (.tmp 16)), none⟩]
def c_syntax_moment_1 : LFun := ⟨17, (.seq (.sreg r_syntax_moment_1_0 [])
  (.seq (.sdreg r_syntax_moment_1_1 [(.read 0 0), .pure, (.read 0 0), .pure, .pure, .pure, (.read 0 0), .pure, .pure, (.read 0 0), .pure, .pure] [true, false, false, false, false, false, false, false, false, false, false, false, false, false])
  .ret)), [(.tmp 3)]⟩
attribute [push_cast] r_syntax_moment_1_0 r_syntax_moment_1_1
theorem c_syntax_moment_1_eq : lowF Tryz.prog (fun _ _ => 1) 44 = some c_syntax_moment_1.raw := by kernel_rfl

/-! castellan/syntax.number -/
def r_syntax_number_0 : List SOp :=
   [.op ⟨(some 2), (.mv (.av (.int .i64 0))), none⟩,
    .op ⟨(some 3), (.mv (.av (.bool false))), none⟩]
def r_syntax_number_1 : List SOp :=
   [.op ⟨(some 7), (.mv (.tmp 0)), none⟩,
    .op ⟨(some 8), (.call 40 [(.tmp 7), (.av (.int .i64 10)), (.av (.int .i64 64))]), none⟩,
    .op ⟨(some 6), (.mv (.tmp 8)), none⟩,
    .op ⟨(some 9), (.extract (.tmp 6) 0), none⟩,
    .op ⟨(some 10), (.extract (.tmp 6) 1), none⟩,
    .op ⟨(some 4), (.mv (.tmp 9)), none⟩,
    .op ⟨(some 5), (.mv (.tmp 10)), none⟩]
def r_syntax_number_2 : List SOp :=
   [.op ⟨(some 11), (.mv (.tmp 4)), none⟩,
    .op ⟨(some 12), (.mv (.tmp 5)), none⟩,
    .op ⟨(some 13), (.eqk false .iface (.tmp 12) (.av .nilif)), none⟩,
    .op ⟨(some 14), (.mv (.tmp 13)), none⟩,
    .grp none 14 true
      [.op ⟨(some 15), (.mv (.tmp 4)), (some (14, true))⟩,
      .op ⟨(some 16), (.call 41 [(.tmp 15), (.av (.int .i64 10))]), (some (14, true))⟩,
      .op ⟨(some 17), (.mv (.tmp 0)), (some (14, true))⟩,
      .op ⟨(some 18), (.bin .eql (.tmp 16) (.tmp 17)), (some (14, true))⟩]
      19 (.tmp 18),
    .op ⟨(some 2), (.mv (.tmp 11)), none⟩,
    .op ⟨(some 3), (.mv (.tmp 19)), none⟩]
def c_syntax_number : LFun := ⟨20, (.seq (.sreg r_syntax_number_0 [])
  (.seq (.sreg r_syntax_number_1 [true, true, false, false, false, false, false])
  (.seq (.sreg r_syntax_number_2 [true, true, false, false, false, false, false])
  .ret))), [(.tmp 2), (.tmp 3)]⟩
attribute [push_cast] r_syntax_number_0 r_syntax_number_1 r_syntax_number_2
theorem c_syntax_number_eq : lowF Tryz.prog (fun _ _ => 1) 19 = some c_syntax_number.raw := by kernel_rfl

/-! castellan/syntax.Norm$1 -/
def r_syntax_Norm_1_0 : List SOp :=
   [.op ⟨(some 2), (.mv (.av (.bool false))), none⟩]
def r_syntax_Norm_1_1 : List SOp :=
   [.op ⟨(some 3), (.mv (.tmp 0)), none⟩,
    .op ⟨(some 4), (.bin .geq (.tmp 3) (.av (.int .i32 128))), none⟩,
    .op ⟨(some 2), (.mv (.tmp 4)), none⟩]
def c_syntax_Norm_1 : LFun := ⟨5, (.seq (.sreg r_syntax_Norm_1_0 [])
  (.seq (.sreg r_syntax_Norm_1_1 [true, false, false])
  .ret)), [(.tmp 2)]⟩
attribute [push_cast] r_syntax_Norm_1_0 r_syntax_Norm_1_1
theorem c_syntax_Norm_1_eq : lowF Tryz.prog (fun _ _ => 1) 18 = some c_syntax_Norm_1.raw := by kernel_rfl

/-! strings.IndexFunc -/
def r_strings_IndexFunc_0 : List SOp :=
   [.op ⟨(some 4), (.mv (.av (.int .i64 0))), none⟩]
def r_strings_IndexFunc_1 : List SOp :=
   [.op ⟨(some 5), (.mv (.tmp 0)), none⟩,
    .op ⟨(some 6), (.mv (.tmp 1)), none⟩,
    .op ⟨(some 7), (.call 39 [(.tmp 5), (.tmp 6), (.av (.bool true))]), none⟩,
    .op ⟨(some 4), (.mv (.tmp 7)), none⟩]
def c_strings_IndexFunc : LFun := ⟨8, (.seq (.sreg r_strings_IndexFunc_0 [])
  (.seq (.sreg r_strings_IndexFunc_1 [true, false, false, false])
  .ret)), [(.tmp 4)]⟩
attribute [push_cast] r_strings_IndexFunc_0 r_strings_IndexFunc_1
theorem c_strings_IndexFunc_eq : lowF Tryz.prog (fun _ _ => 1) 17 = some c_strings_IndexFunc.raw := by kernel_rfl

/-! strings.indexFunc -/
def r_strings_indexFunc_0 : List SOp :=
   [.op ⟨(some 6), (.mv (.av (.int .i64 0))), none⟩]
def r_strings_indexFunc_1 : List SOp :=
   [.op ⟨(some 9), (.mv (.tmp 0)), none⟩,
    .op ⟨(some 10), (.rangeS (.tmp 9)), none⟩]
def r_strings_indexFunc_2 : List SOp :=
   [.op ⟨(some 11), (.nextS (.tmp 10)), none⟩,
    .op ⟨(some 12), (.extract (.tmp 11) 0), none⟩]
def r_strings_indexFunc_3 : List SOp :=
   [.op ⟨(some 13), (.extract (.tmp 11) 1), none⟩,
    .op ⟨(some 14), (.extract (.tmp 11) 2), none⟩,
    .op ⟨(some 7), (.mv (.tmp 13)), none⟩,
    .op ⟨(some 8), (.mv (.tmp 14)), none⟩]
def r_strings_indexFunc_4 : List SOp :=
   [.op ⟨(some 15), (.mv (.tmp 1)), none⟩,
    .op ⟨(some 16), (.mv (.tmp 8)), none⟩,
    .op ⟨(some 17), (.callv (.tmp 15) [(.tmp 16)]), none⟩,
    .op ⟨(some 18), (.mv (.tmp 2)), none⟩,
    .op ⟨(some 19), (.eqk false .bool (.tmp 17) (.tmp 18)), none⟩]
def r_strings_indexFunc_5 : List SOp :=
   [.op ⟨(some 20), (.mv (.tmp 7)), none⟩,
    .op ⟨(some 6), (.mv (.tmp 20)), none⟩]
def r_strings_indexFunc_6 : List SOp :=
   [.op ⟨(some 6), (.mv (.av (.int .i64 (-1)))), none⟩]
def c_strings_indexFunc : LFun := ⟨21, (.seq (.sreg r_strings_indexFunc_0 [])
  (.seq (.seq (.sreg r_strings_indexFunc_1 [true, false])
  (.block 0 (.loop (.seq (.sreg r_strings_indexFunc_2 [])
  (.seq (.cond (.tmp 12) .skip
  (.exit 0))
  (.block 1 (.seq (.sreg r_strings_indexFunc_3 [true, true, false, false])
  (.seq (.sreg r_strings_indexFunc_4 [true, false, false, false, false])
  (.cond (.tmp 19) (.seq (.sreg r_strings_indexFunc_5 [true, false])
  .ret)
  .skip)))))))))
  (.seq (.sreg r_strings_indexFunc_6 [])
  .ret))), [(.tmp 6)]⟩
attribute [push_cast] r_strings_indexFunc_0 r_strings_indexFunc_1 r_strings_indexFunc_2 r_strings_indexFunc_3 r_strings_indexFunc_4 r_strings_indexFunc_5 r_strings_indexFunc_6
theorem c_strings_indexFunc_eq : lowF Tryz.prog (fun _ _ => 1) 39 = some c_strings_indexFunc.raw := by kernel_rfl

/-! castellan/castellanref12.utf -/
def r_ref12_utf_0 : List SOp :=
   [.op ⟨(some 2), (.mv (.av (.bool false))), none⟩]
def r_ref12_utf_1 : List SOp :=
   [.op ⟨(some 7), (.mv (.tmp 0)), none⟩,
    .op ⟨(some 8), (.len true (.tmp 7)), none⟩,
    .op ⟨(some 9), (.bin .gtr (.tmp 8) (.av (.int .i64 0))), none⟩]
def r_ref12_utf_2 : List SOp :=
   [.op ⟨(some 10), (.mv (.tmp 0)), none⟩,
    .op ⟨(some 11), (.idxS (.tmp 10) (.av (.int .i64 0))), none⟩,
    .op ⟨(some 12), (.conv .i64 (.tmp 11)), none⟩,
    .op ⟨(some 3), (.mv (.tmp 12)), none⟩]
def r_ref12_utf_3 : List SOp :=
   [.op ⟨(some 4), (.mv (.av (.int .i64 1))), none⟩]
def r_ref12_utf_4 : List SOp :=
   [.op ⟨(some 13), (.mv (.tmp 3)), none⟩,
    .op ⟨(some 14), (.bin .geq (.tmp 13) (.av (.int .i64 240))), none⟩]
def r_ref12_utf_5 : List SOp :=
   [.op ⟨(some 4), (.mv (.av (.int .i64 4))), none⟩]
def r_ref12_utf_6 : List SOp :=
   [.op ⟨(some 15), (.mv (.tmp 3)), none⟩,
    .op ⟨(some 16), (.bin .sub (.tmp 15) (.av (.int .i64 240))), none⟩,
    .op ⟨(some 3), (.mv (.tmp 16)), none⟩]
def r_ref12_utf_7 : List SOp :=
   [.op ⟨(some 17), (.mv (.tmp 3)), none⟩,
    .op ⟨(some 18), (.bin .geq (.tmp 17) (.av (.int .i64 224))), none⟩]
def r_ref12_utf_8 : List SOp :=
   [.op ⟨(some 4), (.mv (.av (.int .i64 3))), none⟩]
def r_ref12_utf_9 : List SOp :=
   [.op ⟨(some 19), (.mv (.tmp 3)), none⟩,
    .op ⟨(some 20), (.bin .sub (.tmp 19) (.av (.int .i64 224))), none⟩,
    .op ⟨(some 3), (.mv (.tmp 20)), none⟩]
def r_ref12_utf_10 : List SOp :=
   [.op ⟨(some 21), (.mv (.tmp 3)), none⟩,
    .op ⟨(some 22), (.bin .geq (.tmp 21) (.av (.int .i64 192))), none⟩]
def r_ref12_utf_11 : List SOp :=
   [.op ⟨(some 4), (.mv (.av (.int .i64 2))), none⟩]
def r_ref12_utf_12 : List SOp :=
   [.op ⟨(some 23), (.mv (.tmp 3)), none⟩,
    .op ⟨(some 24), (.bin .sub (.tmp 23) (.av (.int .i64 192))), none⟩,
    .op ⟨(some 3), (.mv (.tmp 24)), none⟩]
def r_ref12_utf_13 : List SOp :=
   [.op ⟨(some 25), (.mv (.tmp 3)), none⟩,
    .op ⟨(some 26), (.bin .geq (.tmp 25) (.av (.int .i64 128))), none⟩]
def r_ref12_utf_14 : List SOp :=
   [.op ⟨(some 2), (.mv (.av (.bool false))), none⟩]
def r_ref12_utf_15 : List SOp :=
   [.op ⟨(some 27), (.mv (.tmp 0)), none⟩,
    .op ⟨(some 28), (.len true (.tmp 27)), none⟩,
    .op ⟨(some 29), (.mv (.tmp 4)), none⟩,
    .op ⟨(some 30), (.bin .lss (.tmp 28) (.tmp 29)), none⟩]
def r_ref12_utf_16 : List SOp :=
   [.op ⟨(some 2), (.mv (.av (.bool false))), none⟩]
def r_ref12_utf_17 : List SOp :=
   [.op ⟨(some 5), (.mv (.av (.int .i64 1))), none⟩]
def r_ref12_utf_18 : List SOp :=
   [.op ⟨(some 31), (.mv (.tmp 5)), none⟩,
    .op ⟨(some 32), (.mv (.tmp 4)), none⟩,
    .op ⟨(some 33), (.bin .lss (.tmp 31) (.tmp 32)), none⟩]
def r_ref12_utf_19 : List SOp :=
   [.op ⟨(some 36), (.mv (.tmp 0)), none⟩,
    .op ⟨(some 37), (.mv (.tmp 5)), none⟩,
    .op ⟨(some 38), (.idxS (.tmp 36) (.tmp 37)), none⟩,
    .op ⟨(some 39), (.conv .i64 (.tmp 38)), none⟩,
    .op ⟨(some 6), (.mv (.tmp 39)), none⟩]
def r_ref12_utf_20 : List SOp :=
   [.op ⟨(some 40), (.mv (.tmp 6)), none⟩,
    .op ⟨(some 41), (.bin .lss (.tmp 40) (.av (.int .i64 128))), none⟩,
    .op ⟨(some 42), (.mv (.tmp 41)), none⟩,
    .grp none 42 false
      [.op ⟨(some 43), (.mv (.tmp 6)), (some (42, false))⟩,
      .op ⟨(some 44), (.bin .geq (.tmp 43) (.av (.int .i64 192))), (some (42, false))⟩]
      45 (.tmp 44)]
def r_ref12_utf_21 : List SOp :=
   [.op ⟨(some 2), (.mv (.av (.bool false))), none⟩]
def r_ref12_utf_22 : List SOp :=
   [.op ⟨(some 46), (.mv (.tmp 3)), none⟩,
    .op ⟨(some 47), (.bin .mul (.tmp 46) (.av (.int .i64 64))), none⟩,
    .op ⟨(some 48), (.mv (.tmp 6)), none⟩,
    .op ⟨(some 49), (.bin .add (.tmp 47) (.tmp 48)), none⟩,
    .op ⟨(some 50), (.bin .sub (.tmp 49) (.av (.int .i64 128))), none⟩,
    .op ⟨(some 3), (.mv (.tmp 50)), none⟩]
def r_ref12_utf_23 : List SOp :=
   [.op ⟨(some 34), (.mv (.tmp 5)), none⟩,
    .op ⟨(some 35), (.bin .add (.tmp 34) (.av (.int .i64 1))), none⟩,
    .op ⟨(some 5), (.mv (.tmp 35)), none⟩]
def r_ref12_utf_24 : List SOp :=
   [.op ⟨(some 51), (.mv (.tmp 4)), none⟩,
    .op ⟨(some 52), (.bin .eql (.tmp 51) (.av (.int .i64 2))), none⟩,
    .op ⟨(some 53), (.mv (.tmp 52)), none⟩,
    .grp none 53 true
      [.op ⟨(some 54), (.mv (.tmp 3)), (some (53, true))⟩,
      .op ⟨(some 55), (.bin .lss (.tmp 54) (.av (.int .i64 128))), (some (53, true))⟩]
      56 (.tmp 55),
    .op ⟨(some 57), (.mv (.tmp 56)), none⟩,
    .grp none 57 false
      [.op ⟨(some 58), (.mv (.tmp 4)), (some (57, false))⟩,
      .op ⟨(some 59), (.bin .eql (.tmp 58) (.av (.int .i64 3))), (some (57, false))⟩,
      .op ⟨(some 60), (.mv (.tmp 59)), (some (57, false))⟩,
      .grp (some (57, false)) 60 true
        [.op ⟨(some 61), (.mv (.tmp 3)), (some (60, true))⟩,
        .op ⟨(some 62), (.bin .lss (.tmp 61) (.av (.int .i64 2048))), (some (60, true))⟩]
        63 (.tmp 62)]
      64 (.tmp 63),
    .op ⟨(some 65), (.mv (.tmp 64)), none⟩,
    .grp none 65 false
      [.op ⟨(some 66), (.mv (.tmp 4)), (some (65, false))⟩,
      .op ⟨(some 67), (.bin .eql (.tmp 66) (.av (.int .i64 4))), (some (65, false))⟩,
      .op ⟨(some 68), (.mv (.tmp 67)), (some (65, false))⟩,
      .grp (some (65, false)) 68 true
        [.op ⟨(some 69), (.mv (.tmp 3)), (some (68, true))⟩,
        .op ⟨(some 70), (.bin .lss (.tmp 69) (.av (.int .i64 65536))), (some (68, true))⟩]
        71 (.tmp 70)]
      72 (.tmp 71),
    .op ⟨(some 73), (.mv (.tmp 72)), none⟩,
    .grp none 73 false
      [.op ⟨(some 74), (.mv (.tmp 3)), (some (73, false))⟩,
      .op ⟨(some 75), (.bin .gtr (.tmp 74) (.av (.int .i64 1114111))), (some (73, false))⟩]
      76 (.tmp 75),
    .op ⟨(some 77), (.mv (.tmp 76)), none⟩,
    .grp none 77 false
      [.op ⟨(some 78), (.mv (.tmp 3)), (some (77, false))⟩,
      .op ⟨(some 79), (.bin .geq (.tmp 78) (.av (.int .i64 55296))), (some (77, false))⟩,
      .op ⟨(some 80), (.mv (.tmp 79)), (some (77, false))⟩,
      .grp (some (77, false)) 80 true
        [.op ⟨(some 81), (.mv (.tmp 3)), (some (80, true))⟩,
        .op ⟨(some 82), (.bin .lss (.tmp 81) (.av (.int .i64 57344))), (some (80, true))⟩]
        83 (.tmp 82)]
      84 (.tmp 83)]
def r_ref12_utf_25 : List SOp :=
   [.op ⟨(some 2), (.mv (.av (.bool false))), none⟩]
def r_ref12_utf_26 : List SOp :=
   [.op ⟨(some 85), (.mv (.tmp 0)), none⟩,
    .op ⟨(some 86), (.mv (.tmp 4)), none⟩,
    .op ⟨(some 87), (.slS (.tmp 85) (some (.tmp 86)) none), none⟩,
    .op ⟨(some 0), (.mv (.tmp 87)), none⟩]
def r_ref12_utf_27 : List SOp :=
   [.op ⟨(some 2), (.mv (.av (.bool true))), none⟩]
def c_ref12_utf : LFun := ⟨88, (.seq (.sreg r_ref12_utf_0 [])
  (.seq (.block 0 (.loop (.seq (.seq (.sreg r_ref12_utf_1 [true, false, false])
  (.cond (.tmp 9) .skip
  (.exit 0)))
  (.block 1 (.seq (.sreg r_ref12_utf_2 [true, false, false, false])
  (.seq (.sreg r_ref12_utf_3 [])
  (.seq (.seq (.sreg r_ref12_utf_4 [true, false])
  (.cond (.tmp 14) (.seq (.sreg r_ref12_utf_5 [])
  (.sreg r_ref12_utf_6 [true, false, false]))
  (.seq (.sreg r_ref12_utf_7 [true, false])
  (.cond (.tmp 18) (.seq (.sreg r_ref12_utf_8 [])
  (.sreg r_ref12_utf_9 [true, false, false]))
  (.seq (.sreg r_ref12_utf_10 [true, false])
  (.cond (.tmp 22) (.seq (.sreg r_ref12_utf_11 [])
  (.sreg r_ref12_utf_12 [true, false, false]))
  (.seq (.sreg r_ref12_utf_13 [true, false])
  (.cond (.tmp 26) (.seq (.sreg r_ref12_utf_14 [])
  .ret)
  .skip))))))))
  (.seq (.seq (.sreg r_ref12_utf_15 [true, false, false, false])
  (.cond (.tmp 30) (.seq (.sreg r_ref12_utf_16 [])
  .ret)
  .skip))
  (.seq (.seq (.sreg r_ref12_utf_17 [])
  (.block 2 (.loop (.seq (.seq (.sreg r_ref12_utf_18 [true, false, false])
  (.cond (.tmp 33) .skip
  (.exit 2)))
  (.seq (.block 3 (.seq (.sreg r_ref12_utf_19 [true, false, false, false, false])
  (.seq (.seq (.sreg r_ref12_utf_20 [true, false, false, false])
  (.cond (.tmp 45) (.seq (.sreg r_ref12_utf_21 [])
  .ret)
  .skip))
  (.sreg r_ref12_utf_22 [true, false, false, false, false, false]))))
  (.sreg r_ref12_utf_23 [true, false, false]))))))
  (.seq (.seq (.sreg r_ref12_utf_24 [true, false, false, false, false, false, false, false, false, false, false, false])
  (.cond (.tmp 84) (.seq (.sreg r_ref12_utf_25 [])
  .ret)
  .skip))
  (.sreg r_ref12_utf_26 [true, false, false, false])))))))))))
  (.seq (.sreg r_ref12_utf_27 [])
  .ret))), [(.tmp 2)]⟩
attribute [push_cast] r_ref12_utf_0 r_ref12_utf_1 r_ref12_utf_2 r_ref12_utf_3 r_ref12_utf_4 r_ref12_utf_5 r_ref12_utf_6 r_ref12_utf_7 r_ref12_utf_8 r_ref12_utf_9 r_ref12_utf_10 r_ref12_utf_11 r_ref12_utf_12 r_ref12_utf_13 r_ref12_utf_14 r_ref12_utf_15 r_ref12_utf_16 r_ref12_utf_17 r_ref12_utf_18 r_ref12_utf_19 r_ref12_utf_20 r_ref12_utf_21 r_ref12_utf_22 r_ref12_utf_23 r_ref12_utf_24 r_ref12_utf_25 r_ref12_utf_26 r_ref12_utf_27
theorem c_ref12_utf_eq : lowF Tryz.prog (fun _ _ => 1) 22 = some c_ref12_utf.raw := by kernel_rfl

/-! castellan/castellanref12.digits -/
def r_ref12_digits_0 : List SOp :=
   [.op ⟨(some 2), (.mv (.av (.bool false))), none⟩]
def r_ref12_digits_1 : List SOp :=
   [.op ⟨(some 3), (.mv (.av (.int .i64 0))), none⟩]
def r_ref12_digits_2 : List SOp :=
   [.op ⟨(some 4), (.mv (.tmp 3)), none⟩,
    .op ⟨(some 5), (.mv (.tmp 0)), none⟩,
    .op ⟨(some 6), (.len true (.tmp 5)), none⟩,
    .op ⟨(some 7), (.bin .lss (.tmp 4) (.tmp 6)), none⟩]
def r_ref12_digits_3 : List SOp :=
   [.op ⟨(some 10), (.mv (.tmp 0)), none⟩,
    .op ⟨(some 11), (.mv (.tmp 3)), none⟩,
    .op ⟨(some 12), (.idxS (.tmp 10) (.tmp 11)), none⟩,
    .op ⟨(some 13), (.bin .lss (.tmp 12) (.av (.int .u8 48))), none⟩,
    .op ⟨(some 14), (.mv (.tmp 13)), none⟩,
    .grp none 14 false
      [.op ⟨(some 15), (.mv (.tmp 0)), (some (14, false))⟩,
      .op ⟨(some 16), (.mv (.tmp 3)), (some (14, false))⟩,
      .op ⟨(some 17), (.idxS (.tmp 15) (.tmp 16)), (some (14, false))⟩,
      .op ⟨(some 18), (.bin .gtr (.tmp 17) (.av (.int .u8 57))), (some (14, false))⟩]
      19 (.tmp 18)]
def r_ref12_digits_4 : List SOp :=
   [.op ⟨(some 2), (.mv (.av (.bool false))), none⟩]
def r_ref12_digits_5 : List SOp :=
   [.op ⟨(some 8), (.mv (.tmp 3)), none⟩,
    .op ⟨(some 9), (.bin .add (.tmp 8) (.av (.int .i64 1))), none⟩,
    .op ⟨(some 3), (.mv (.tmp 9)), none⟩]
def r_ref12_digits_6 : List SOp :=
   [.op ⟨(some 20), (.mv (.tmp 0)), none⟩,
    .op ⟨(some 21), (.len true (.tmp 20)), none⟩,
    .op ⟨(some 22), (.bin .gtr (.tmp 21) (.av (.int .i64 0))), none⟩,
    .op ⟨(some 2), (.mv (.tmp 22)), none⟩]
def c_ref12_digits : LFun := ⟨23, (.seq (.sreg r_ref12_digits_0 [])
  (.seq (.seq (.sreg r_ref12_digits_1 [])
  (.block 0 (.loop (.seq (.seq (.sreg r_ref12_digits_2 [true, false, false, false])
  (.cond (.tmp 7) .skip
  (.exit 0)))
  (.seq (.block 1 (.seq (.sreg r_ref12_digits_3 [true, false, false, false, false, false])
  (.cond (.tmp 19) (.seq (.sreg r_ref12_digits_4 [])
  .ret)
  .skip)))
  (.sreg r_ref12_digits_5 [true, false, false]))))))
  (.seq (.sreg r_ref12_digits_6 [true, false, false, false])
  .ret))), [(.tmp 2)]⟩
attribute [push_cast] r_ref12_digits_0 r_ref12_digits_1 r_ref12_digits_2 r_ref12_digits_3 r_ref12_digits_4 r_ref12_digits_5 r_ref12_digits_6
theorem c_ref12_digits_eq : lowF Tryz.prog (fun _ _ => 1) 45 = some c_ref12_digits.raw := by kernel_rfl

/-! castellan/castellanref12.number -/
def r_ref12_number_0 : List SOp :=
   [.op ⟨(some 2), (.mv (.av (.bool false))), none⟩]
def r_ref12_number_1 : List SOp :=
   [.op ⟨(some 4), (.mv (.tmp 0)), none⟩,
    .op ⟨(some 5), (.bin .eql (.tmp 4) (.av (.str [48]))), none⟩]
def r_ref12_number_2 : List SOp :=
   [.op ⟨(some 2), (.mv (.av (.bool true))), none⟩]
def r_ref12_number_3 : List SOp :=
   [.op ⟨(some 3), (.mv (.av (.str [57, 50, 50, 51, 51, 55, 50, 48, 51, 54, 56, 53, 52, 55, 55, 53, 56, 48, 55]))), none⟩]
def r_ref12_number_4 : List SOp :=
   [.op ⟨(some 6), (.mv (.tmp 0)), none⟩,
    .op ⟨(some 7), (.len true (.tmp 6)), none⟩,
    .op ⟨(some 8), (.bin .gtr (.tmp 7) (.av (.int .i64 0))), none⟩,
    .op ⟨(some 9), (.mv (.tmp 8)), none⟩,
    .grp none 9 true
      [.op ⟨(some 10), (.mv (.tmp 0)), (some (9, true))⟩,
      .op ⟨(some 11), (.idxS (.tmp 10) (.av (.int .i64 0))), (some (9, true))⟩,
      .op ⟨(some 12), (.bin .eql (.tmp 11) (.av (.int .u8 45))), (some (9, true))⟩]
      13 (.tmp 12)]
def r_ref12_number_5 : List SOp :=
   [.op ⟨(some 14), (.mv (.tmp 0)), none⟩,
    .op ⟨(some 15), (.slS (.tmp 14) (some (.av (.int .i64 1))) none), none⟩,
    .op ⟨(some 0), (.mv (.tmp 15)), none⟩]
def r_ref12_number_6 : List SOp :=
   [.op ⟨(some 3), (.mv (.av (.str [57, 50, 50, 51, 51, 55, 50, 48, 51, 54, 56, 53, 52, 55, 55, 53, 56, 48, 56]))), none⟩]
def r_ref12_number_7 : List SOp :=
   [.op ⟨(some 16), (.mv (.tmp 0)), none⟩,
    .op ⟨(some 17), (.call 45 [(.tmp 16)]), none⟩,
    .op ⟨(some 18), (.mv (.tmp 17)), none⟩,
    .grp none 18 true
      [.op ⟨(some 19), (.mv (.tmp 0)), (some (18, true))⟩,
      .op ⟨(some 20), (.idxS (.tmp 19) (.av (.int .i64 0))), (some (18, true))⟩,
      .op ⟨(some 21), (.bin .neq (.tmp 20) (.av (.int .u8 48))), (some (18, true))⟩]
      22 (.tmp 21),
    .op ⟨(some 23), (.mv (.tmp 22)), none⟩,
    .grp none 23 true
      [.op ⟨(some 24), (.mv (.tmp 0)), (some (23, true))⟩,
      .op ⟨(some 25), (.len true (.tmp 24)), (some (23, true))⟩,
      .op ⟨(some 26), (.bin .lss (.tmp 25) (.av (.int .i64 19))), (some (23, true))⟩,
      .op ⟨(some 27), (.mv (.tmp 26)), (some (23, true))⟩,
      .grp (some (23, true)) 27 false
        [.op ⟨(some 28), (.mv (.tmp 0)), (some (27, false))⟩,
        .op ⟨(some 29), (.len true (.tmp 28)), (some (27, false))⟩,
        .op ⟨(some 30), (.bin .eql (.tmp 29) (.av (.int .i64 19))), (some (27, false))⟩,
        .op ⟨(some 31), (.mv (.tmp 30)), (some (27, false))⟩,
        .grp (some (27, false)) 31 true
          [.op ⟨(some 32), (.mv (.tmp 0)), (some (31, true))⟩,
          .op ⟨(some 33), (.mv (.tmp 3)), (some (31, true))⟩,
          .op ⟨(some 34), (.bin .leq (.tmp 32) (.tmp 33)), (some (31, true))⟩]
          35 (.tmp 34)]
        36 (.tmp 35)]
      37 (.tmp 36),
    .op ⟨(some 2), (.mv (.tmp 37)), none⟩]
def c_ref12_number : LFun := ⟨38, (.seq (.sreg r_ref12_number_0 [])
  (.seq (.seq (.sreg r_ref12_number_1 [true, false])
  (.cond (.tmp 5) (.seq (.sreg r_ref12_number_2 [])
  .ret)
  .skip))
  (.seq (.sreg r_ref12_number_3 [])
  (.seq (.seq (.sreg r_ref12_number_4 [true, false, false, false, false])
  (.cond (.tmp 13) (.seq (.sreg r_ref12_number_5 [true, false, false])
  (.sreg r_ref12_number_6 []))
  .skip))
  (.seq (.sreg r_ref12_number_7 [true, false, false, false, false, false, false])
  .ret))))), [(.tmp 2)]⟩
attribute [push_cast] r_ref12_number_0 r_ref12_number_1 r_ref12_number_2 r_ref12_number_3 r_ref12_number_4 r_ref12_number_5 r_ref12_number_6 r_ref12_number_7
theorem c_ref12_number_eq : lowF Tryz.prog (fun _ _ => 1) 24 = some c_ref12_number.raw := by kernel_rfl

/-! castellan/castellanref12.num -/
def r_ref12_num_0 : List SOp :=
   [.op ⟨(some 2), (.mv (.av (.int .i64 0))), none⟩]
def r_ref12_num_1 : List SOp :=
   [.op ⟨(some 3), (.mv (.av (.int .i64 0))), none⟩]
def r_ref12_num_2 : List SOp :=
   [.op ⟨(some 4), (.mv (.av (.int .i64 0))), none⟩]
def r_ref12_num_3 : List SOp :=
   [.op ⟨(some 5), (.mv (.tmp 4)), none⟩,
    .op ⟨(some 6), (.mv (.tmp 0)), none⟩,
    .op ⟨(some 7), (.len true (.tmp 6)), none⟩,
    .op ⟨(some 8), (.bin .lss (.tmp 5) (.tmp 7)), none⟩]
def r_ref12_num_4 : List SOp :=
   [.op ⟨(some 11), (.mv (.tmp 3)), none⟩,
    .op ⟨(some 12), (.bin .mul (.av (.int .i64 10)) (.tmp 11)), none⟩,
    .op ⟨(some 13), (.mv (.tmp 0)), none⟩,
    .op ⟨(some 14), (.mv (.tmp 4)), none⟩,
    .op ⟨(some 15), (.idxS (.tmp 13) (.tmp 14)), none⟩,
    .op ⟨(some 16), (.bin .sub (.tmp 15) (.av (.int .u8 48))), none⟩,
    .op ⟨(some 17), (.conv .i64 (.tmp 16)), none⟩,
    .op ⟨(some 18), (.bin .add (.tmp 12) (.tmp 17)), none⟩,
    .op ⟨(some 3), (.mv (.tmp 18)), none⟩]
def r_ref12_num_5 : List SOp :=
   [.op ⟨(some 9), (.mv (.tmp 4)), none⟩,
    .op ⟨(some 10), (.bin .add (.tmp 9) (.av (.int .i64 1))), none⟩,
    .op ⟨(some 4), (.mv (.tmp 10)), none⟩]
def r_ref12_num_6 : List SOp :=
   [.op ⟨(some 19), (.mv (.tmp 3)), none⟩,
    .op ⟨(some 2), (.mv (.tmp 19)), none⟩]
def c_ref12_num : LFun := ⟨20, (.seq (.sreg r_ref12_num_0 [])
  (.seq (.sreg r_ref12_num_1 [])
  (.seq (.seq (.sreg r_ref12_num_2 [])
  (.block 0 (.loop (.seq (.seq (.sreg r_ref12_num_3 [true, false, false, false])
  (.cond (.tmp 8) .skip
  (.exit 0)))
  (.seq (.block 1 (.sreg r_ref12_num_4 [true, false, false, false, false, false, false, false, false]))
  (.sreg r_ref12_num_5 [true, false, false]))))))
  (.seq (.sreg r_ref12_num_6 [true, false])
  .ret)))), [(.tmp 2)]⟩
attribute [push_cast] r_ref12_num_0 r_ref12_num_1 r_ref12_num_2 r_ref12_num_3 r_ref12_num_4 r_ref12_num_5 r_ref12_num_6
theorem c_ref12_num_eq : lowF Tryz.prog (fun _ _ => 1) 48 = some c_ref12_num.raw := by kernel_rfl

/-! castellan/castellanref12.moment -/
def r_ref12_moment_0 : List SOp :=
   [.op ⟨(some 2), (.mv (.av (.bool false))), none⟩]
def r_ref12_moment_1 : List SOp :=
   [.op ⟨(some 7), (.mv (.tmp 0)), none⟩,
    .op ⟨(some 8), (.len true (.tmp 7)), none⟩,
    .op ⟨(some 9), (.bin .neq (.tmp 8) (.av (.int .i64 15))), none⟩,
    .op ⟨(some 10), (.mv (.tmp 9)), none⟩,
    .grp none 10 false
      [.op ⟨(some 11), (.mv (.tmp 0)), (some (10, false))⟩,
      .op ⟨(some 12), (.slS (.tmp 11) none (some (.av (.int .i64 14)))), (some (10, false))⟩,
      .op ⟨(some 13), (.call 45 [(.tmp 12)]), (some (10, false))⟩,
      .op ⟨(some 14), (.un .not (.tmp 13)), (some (10, false))⟩]
      15 (.tmp 14),
    .op ⟨(some 16), (.mv (.tmp 15)), none⟩,
    .grp none 16 false
      [.op ⟨(some 17), (.mv (.tmp 0)), (some (16, false))⟩,
      .op ⟨(some 18), (.idxS (.tmp 17) (.av (.int .i64 14))), (some (16, false))⟩,
      .op ⟨(some 19), (.bin .neq (.tmp 18) (.av (.int .u8 90))), (some (16, false))⟩]
      20 (.tmp 19)]
def r_ref12_moment_2 : List SOp :=
   [.op ⟨(some 2), (.mv (.av (.bool false))), none⟩]
def r_ref12_moment_3 : List SOp :=
   [.op ⟨(some 21), (.mv (.tmp 0)), none⟩,
    .op ⟨(some 22), (.slS (.tmp 21) none (some (.av (.int .i64 4)))), none⟩,
    .op ⟨(some 23), (.call 48 [(.tmp 22)]), none⟩,
    .op ⟨(some 24), (.mv (.tmp 0)), none⟩,
    .op ⟨(some 25), (.slS (.tmp 24) (some (.av (.int .i64 4))) (some (.av (.int .i64 6)))), none⟩,
    .op ⟨(some 26), (.call 48 [(.tmp 25)]), none⟩,
    .op ⟨(some 27), (.mv (.tmp 0)), none⟩,
    .op ⟨(some 28), (.slS (.tmp 27) (some (.av (.int .i64 6))) (some (.av (.int .i64 8)))), none⟩,
    .op ⟨(some 29), (.call 48 [(.tmp 28)]), none⟩,
    .op ⟨(some 3), (.mv (.tmp 23)), none⟩,
    .op ⟨(some 4), (.mv (.tmp 26)), none⟩,
    .op ⟨(some 5), (.mv (.tmp 29)), none⟩]
def r_ref12_moment_4 : List SOp :=
   [.op ⟨(some 30), (.mv (.tmp 4)), none⟩,
    .op ⟨(some 31), (.bin .lss (.tmp 30) (.av (.int .i64 1))), none⟩,
    .op ⟨(some 32), (.mv (.tmp 31)), none⟩,
    .grp none 32 false
      [.op ⟨(some 33), (.mv (.tmp 4)), (some (32, false))⟩,
      .op ⟨(some 34), (.bin .gtr (.tmp 33) (.av (.int .i64 12))), (some (32, false))⟩]
      35 (.tmp 34),
    .op ⟨(some 36), (.mv (.tmp 35)), none⟩,
    .grp none 36 false
      [.op ⟨(some 37), (.mv (.tmp 5)), (some (36, false))⟩,
      .op ⟨(some 38), (.bin .lss (.tmp 37) (.av (.int .i64 1))), (some (36, false))⟩]
      39 (.tmp 38),
    .op ⟨(some 40), (.mv (.tmp 39)), none⟩,
    .grp none 40 false
      [.op ⟨(some 41), (.mv (.tmp 0)), (some (40, false))⟩,
      .op ⟨(some 42), (.slS (.tmp 41) (some (.av (.int .i64 8))) (some (.av (.int .i64 10)))), (some (40, false))⟩,
      .op ⟨(some 43), (.call 48 [(.tmp 42)]), (some (40, false))⟩,
      .op ⟨(some 44), (.bin .gtr (.tmp 43) (.av (.int .i64 23))), (some (40, false))⟩]
      45 (.tmp 44),
    .op ⟨(some 46), (.mv (.tmp 45)), none⟩,
    .grp none 46 false
      [.op ⟨(some 47), (.mv (.tmp 0)), (some (46, false))⟩,
      .op ⟨(some 48), (.slS (.tmp 47) (some (.av (.int .i64 10))) (some (.av (.int .i64 12)))), (some (46, false))⟩,
      .op ⟨(some 49), (.call 48 [(.tmp 48)]), (some (46, false))⟩,
      .op ⟨(some 50), (.bin .gtr (.tmp 49) (.av (.int .i64 59))), (some (46, false))⟩]
      51 (.tmp 50),
    .op ⟨(some 52), (.mv (.tmp 51)), none⟩,
    .grp none 52 false
      [.op ⟨(some 53), (.mv (.tmp 0)), (some (52, false))⟩,
      .op ⟨(some 54), (.slS (.tmp 53) (some (.av (.int .i64 12))) (some (.av (.int .i64 14)))), (some (52, false))⟩,
      .op ⟨(some 55), (.call 48 [(.tmp 54)]), (some (52, false))⟩,
      .op ⟨(some 56), (.bin .gtr (.tmp 55) (.av (.int .i64 59))), (some (52, false))⟩]
      57 (.tmp 56)]
def r_ref12_moment_5 : List SOp :=
   [.op ⟨(some 2), (.mv (.av (.bool false))), none⟩]
def r_ref12_moment_6 : List SOp :=
   [.op ⟨(some 6), (.mv (.av (.int .i64 31))), none⟩]
def r_ref12_moment_7 : List SOp :=
   [.op ⟨(some 58), (.mv (.tmp 4)), none⟩,
    .op ⟨(some 59), (.bin .eql (.tmp 58) (.av (.int .i64 4))), none⟩,
    .op ⟨(some 60), (.mv (.tmp 59)), none⟩,
    .grp none 60 false
      [.op ⟨(some 61), (.mv (.tmp 4)), (some (60, false))⟩,
      .op ⟨(some 62), (.bin .eql (.tmp 61) (.av (.int .i64 6))), (some (60, false))⟩]
      63 (.tmp 62),
    .op ⟨(some 64), (.mv (.tmp 63)), none⟩,
    .grp none 64 false
      [.op ⟨(some 65), (.mv (.tmp 4)), (some (64, false))⟩,
      .op ⟨(some 66), (.bin .eql (.tmp 65) (.av (.int .i64 9))), (some (64, false))⟩]
      67 (.tmp 66),
    .op ⟨(some 68), (.mv (.tmp 67)), none⟩,
    .grp none 68 false
      [.op ⟨(some 69), (.mv (.tmp 4)), (some (68, false))⟩,
      .op ⟨(some 70), (.bin .eql (.tmp 69) (.av (.int .i64 11))), (some (68, false))⟩]
      71 (.tmp 70)]
def r_ref12_moment_8 : List SOp :=
   [.op ⟨(some 6), (.mv (.av (.int .i64 30))), none⟩]
def r_ref12_moment_9 : List SOp :=
   [.op ⟨(some 72), (.mv (.tmp 4)), none⟩,
    .op ⟨(some 73), (.bin .eql (.tmp 72) (.av (.int .i64 2))), none⟩]
def r_ref12_moment_10 : List SOp :=
   [.op ⟨(some 6), (.mv (.av (.int .i64 28))), none⟩]
def r_ref12_moment_11 : List SOp :=
   [.op ⟨(some 74), (.mv (.tmp 3)), none⟩,
    .op ⟨(some 75), (.bin .rem (.tmp 74) (.av (.int .i64 400))), none⟩,
    .op ⟨(some 76), (.bin .eql (.tmp 75) (.av (.int .i64 0))), none⟩,
    .op ⟨(some 77), (.mv (.tmp 76)), none⟩,
    .grp none 77 false
      [.op ⟨(some 78), (.mv (.tmp 3)), (some (77, false))⟩,
      .op ⟨(some 79), (.bin .rem (.tmp 78) (.av (.int .i64 4))), (some (77, false))⟩,
      .op ⟨(some 80), (.bin .eql (.tmp 79) (.av (.int .i64 0))), (some (77, false))⟩,
      .op ⟨(some 81), (.mv (.tmp 80)), (some (77, false))⟩,
      .grp (some (77, false)) 81 true
        [.op ⟨(some 82), (.mv (.tmp 3)), (some (81, true))⟩,
        .op ⟨(some 83), (.bin .rem (.tmp 82) (.av (.int .i64 100))), (some (81, true))⟩,
        .op ⟨(some 84), (.bin .neq (.tmp 83) (.av (.int .i64 0))), (some (81, true))⟩]
        85 (.tmp 84)]
      86 (.tmp 85)]
def r_ref12_moment_12 : List SOp :=
   [.op ⟨(some 6), (.mv (.av (.int .i64 29))), none⟩]
def r_ref12_moment_13 : List SOp :=
   [.op ⟨(some 87), (.mv (.tmp 5)), none⟩,
    .op ⟨(some 88), (.mv (.tmp 6)), none⟩,
    .op ⟨(some 89), (.bin .leq (.tmp 87) (.tmp 88)), none⟩,
    .op ⟨(some 2), (.mv (.tmp 89)), none⟩]
def c_ref12_moment : LFun := ⟨90, (.seq (.sreg r_ref12_moment_0 [])
  (.seq (.seq (.sreg r_ref12_moment_1 [true, false, false, false, false, false, false])
  (.cond (.tmp 20) (.seq (.sreg r_ref12_moment_2 [])
  .ret)
  .skip))
  (.seq (.sdreg r_ref12_moment_3 [.pure, (.read 0 0), (.read 0 0), .pure, (.read 0 0), (.read 0 0), .pure, (.read 0 0)] [true, true, true, false, false, false, false, false, false, false, false, false])
  (.seq (.seq (.sreg r_ref12_moment_4 [true, false, false, false, false, false, false, false, false, false, false, false])
  (.cond (.tmp 57) (.seq (.sreg r_ref12_moment_5 [])
  .ret)
  .skip))
  (.seq (.sreg r_ref12_moment_6 [])
  (.seq (.seq (.sreg r_ref12_moment_7 [true, false, false, false, false, false, false, false])
  (.cond (.tmp 71) (.sreg r_ref12_moment_8 [])
  .skip))
  (.seq (.seq (.sreg r_ref12_moment_9 [true, false])
  (.cond (.tmp 73) (.seq (.sreg r_ref12_moment_10 [])
  (.seq (.sreg r_ref12_moment_11 [true, false, false, false, false])
  (.cond (.tmp 86) (.sreg r_ref12_moment_12 [])
  .skip)))
  .skip))
  (.seq (.sreg r_ref12_moment_13 [true, false, false, false])
  .ret)))))))), [(.tmp 2)]⟩
attribute [push_cast] r_ref12_moment_0 r_ref12_moment_1 r_ref12_moment_2 r_ref12_moment_3 r_ref12_moment_4 r_ref12_moment_5 r_ref12_moment_6 r_ref12_moment_7 r_ref12_moment_8 r_ref12_moment_9 r_ref12_moment_10 r_ref12_moment_11 r_ref12_moment_12 r_ref12_moment_13
theorem c_ref12_moment_eq : lowF Tryz.prog (fun _ _ => 1) 26 = some c_ref12_moment.raw := by kernel_rfl

/-! castellan/castellanref12.Norm -/
def r_ref12_Norm_0 : List SOp :=
   [.op ⟨(some 4), (.mv (.av (.str []))), none⟩,
    .op ⟨(some 5), (.mv (.av (.bool false))), none⟩]
def r_ref12_Norm_1 : List SOp :=
   [.op ⟨(some 9), (.mv (.tmp 1)), none⟩,
    .op ⟨(some 10), (.len true (.tmp 9)), none⟩,
    .op ⟨(some 11), (.bin .gtr (.tmp 10) (.av (.int .i64 4096))), none⟩]
def r_ref12_Norm_2 : List SOp :=
   [.op ⟨(some 4), (.mv (.av (.str []))), none⟩,
    .op ⟨(some 5), (.mv (.av (.bool false))), none⟩]
def r_ref12_Norm_3 : List SOp :=
   [.op ⟨(some 12), (.mv (.tmp 0)), none⟩]
def r_ref12_Norm_4 : List SOp :=
   [.op ⟨(some 14), (.bin .eql (.tmp 12) (.av (.int .i64 1))), none⟩,
    .op ⟨(some 13), (.mv (.tmp 14)), none⟩]
def r_ref12_Norm_5 : List SOp :=
   [.op ⟨(some 15), (.mv (.tmp 1)), none⟩,
    .op ⟨(some 16), (.len true (.tmp 15)), none⟩,
    .op ⟨(some 17), (.bin .gtr (.tmp 16) (.av (.int .i64 0))), none⟩,
    .op ⟨(some 18), (.mv (.tmp 17)), none⟩,
    .grp none 18 true
      [.op ⟨(some 19), (.mv (.tmp 1)), (some (18, true))⟩,
      .op ⟨(some 20), (.call 22 [(.tmp 19)]), (some (18, true))⟩]
      21 (.tmp 20)]
def r_ref12_Norm_6 : List SOp :=
   [.op ⟨(some 22), (.mv (.tmp 1)), none⟩,
    .op ⟨(some 23), (.call 23 [(.tmp 22)]), none⟩,
    .op ⟨(some 4), (.mv (.tmp 23)), none⟩,
    .op ⟨(some 5), (.mv (.av (.bool true))), none⟩]
def r_ref12_Norm_7 : List SOp :=
   [.op ⟨(some 25), (.bin .eql (.tmp 12) (.av (.int .i64 2))), none⟩,
    .op ⟨(some 24), (.mv (.tmp 25)), none⟩]
def r_ref12_Norm_8 : List SOp :=
   [.op ⟨(some 26), (.mv (.tmp 1)), none⟩,
    .op ⟨(some 27), (.len true (.tmp 26)), none⟩,
    .op ⟨(some 28), (.bin .gtr (.tmp 27) (.av (.int .i64 0))), none⟩,
    .op ⟨(some 29), (.mv (.tmp 28)), none⟩,
    .grp none 29 true
      [.op ⟨(some 30), (.mv (.tmp 1)), (some (29, true))⟩,
      .op ⟨(some 31), (.call 22 [(.tmp 30)]), (some (29, true))⟩]
      32 (.tmp 31)]
def r_ref12_Norm_9 : List SOp :=
   [.op ⟨(some 33), (.mv (.tmp 1)), none⟩,
    .op ⟨(some 4), (.mv (.tmp 33)), none⟩,
    .op ⟨(some 5), (.mv (.av (.bool true))), none⟩]
def r_ref12_Norm_10 : List SOp :=
   [.op ⟨(some 35), (.bin .eql (.tmp 12) (.av (.int .i64 3))), none⟩,
    .op ⟨(some 34), (.mv (.tmp 35)), none⟩]
def r_ref12_Norm_11 : List SOp :=
   [.op ⟨(some 6), (.mv (.av (.int .i64 0))), none⟩]
def r_ref12_Norm_12 : List SOp :=
   [.op ⟨(some 36), (.mv (.tmp 6)), none⟩,
    .op ⟨(some 37), (.mv (.tmp 1)), none⟩,
    .op ⟨(some 38), (.len true (.tmp 37)), none⟩,
    .op ⟨(some 39), (.bin .lss (.tmp 36) (.tmp 38)), none⟩]
def r_ref12_Norm_13 : List SOp :=
   [.op ⟨(some 42), (.mv (.tmp 1)), none⟩,
    .op ⟨(some 43), (.mv (.tmp 6)), none⟩,
    .op ⟨(some 44), (.idxS (.tmp 42) (.tmp 43)), none⟩,
    .op ⟨(some 45), (.bin .geq (.tmp 44) (.av (.int .u8 128))), none⟩]
def r_ref12_Norm_14 : List SOp :=
   [.op ⟨(some 4), (.mv (.av (.str []))), none⟩,
    .op ⟨(some 5), (.mv (.av (.bool false))), none⟩]
def r_ref12_Norm_15 : List SOp :=
   [.op ⟨(some 40), (.mv (.tmp 6)), none⟩,
    .op ⟨(some 41), (.bin .add (.tmp 40) (.av (.int .i64 1))), none⟩,
    .op ⟨(some 6), (.mv (.tmp 41)), none⟩]
def r_ref12_Norm_16 : List SOp :=
   [.op ⟨(some 46), (.mv (.tmp 1)), none⟩,
    .op ⟨(some 47), (.call 23 [(.tmp 46)]), none⟩,
    .op ⟨(some 4), (.mv (.tmp 47)), none⟩,
    .op ⟨(some 5), (.mv (.av (.bool true))), none⟩]
def r_ref12_Norm_17 : List SOp :=
   [.op ⟨(some 49), (.bin .eql (.tmp 12) (.av (.int .i64 4))), none⟩,
    .op ⟨(some 48), (.mv (.tmp 49)), none⟩]
def r_ref12_Norm_18 : List SOp :=
   [.op ⟨(some 50), (.mv (.tmp 1)), none⟩,
    .op ⟨(some 51), (.call 24 [(.tmp 50)]), none⟩]
def r_ref12_Norm_19 : List SOp :=
   [.op ⟨(some 52), (.mv (.tmp 1)), none⟩,
    .op ⟨(some 4), (.mv (.tmp 52)), none⟩,
    .op ⟨(some 5), (.mv (.av (.bool true))), none⟩]
def r_ref12_Norm_20 : List SOp :=
   [.op ⟨(some 54), (.bin .eql (.tmp 12) (.av (.int .i64 5))), none⟩,
    .op ⟨(some 53), (.mv (.tmp 54)), none⟩]
def r_ref12_Norm_21 : List SOp :=
   [.op ⟨(some 55), (.mv (.tmp 1)), none⟩,
    .op ⟨(some 56), (.bin .eql (.tmp 55) (.av (.str [84, 82, 85, 69]))), none⟩,
    .op ⟨(some 57), (.mv (.tmp 56)), none⟩,
    .grp none 57 false
      [.op ⟨(some 58), (.mv (.tmp 1)), (some (57, false))⟩,
      .op ⟨(some 59), (.bin .eql (.tmp 58) (.av (.str [70, 65, 76, 83, 69]))), (some (57, false))⟩]
      60 (.tmp 59)]
def r_ref12_Norm_22 : List SOp :=
   [.op ⟨(some 61), (.mv (.tmp 1)), none⟩,
    .op ⟨(some 4), (.mv (.tmp 61)), none⟩,
    .op ⟨(some 5), (.mv (.av (.bool true))), none⟩]
def r_ref12_Norm_23 : List SOp :=
   [.op ⟨(some 63), (.bin .eql (.tmp 12) (.av (.int .i64 6))), none⟩,
    .op ⟨(some 62), (.mv (.tmp 63)), none⟩]
def r_ref12_Norm_24 : List SOp :=
   [.op ⟨(some 65), (.mv (.tmp 1)), none⟩,
    .op ⟨(some 66), (.call 25 [(.tmp 65)]), none⟩,
    .op ⟨(some 64), (.mv (.tmp 66)), none⟩,
    .op ⟨(some 67), (.extract (.tmp 64) 0), none⟩,
    .op ⟨(some 68), (.extract (.tmp 64) 1), none⟩,
    .op ⟨(some 7), (.mv (.tmp 67)), none⟩,
    .op ⟨(some 8), (.mv (.tmp 68)), none⟩]
def r_ref12_Norm_25 : List SOp :=
   [.op ⟨(some 69), (.mv (.tmp 8)), none⟩,
    .op ⟨(some 70), (.bin .eql (.tmp 69) (.av (.int .i64 0))), none⟩]
def r_ref12_Norm_26 : List SOp :=
   [.op ⟨(some 71), (.mv (.tmp 7)), none⟩,
    .op ⟨(some 4), (.mv (.tmp 71)), none⟩,
    .op ⟨(some 5), (.mv (.av (.bool true))), none⟩]
def r_ref12_Norm_27 : List SOp :=
   [.op ⟨(some 73), (.bin .eql (.tmp 12) (.av (.int .i64 7))), none⟩,
    .op ⟨(some 72), (.mv (.tmp 73)), none⟩]
def r_ref12_Norm_28 : List SOp :=
   [.op ⟨(some 74), (.mv (.tmp 1)), none⟩,
    .op ⟨(some 4), (.mv (.tmp 74)), none⟩,
    .op ⟨(some 5), (.mv (.av (.bool true))), none⟩]
def r_ref12_Norm_29 : List SOp :=
   [.op ⟨(some 76), (.bin .eql (.tmp 12) (.av (.int .i64 8))), none⟩,
    .op ⟨(some 75), (.mv (.tmp 76)), none⟩]
def r_ref12_Norm_30 : List SOp :=
   [.op ⟨(some 77), (.mv (.tmp 1)), none⟩,
    .op ⟨(some 78), (.call 26 [(.tmp 77)]), none⟩]
def r_ref12_Norm_31 : List SOp :=
   [.op ⟨(some 79), (.mv (.tmp 1)), none⟩,
    .op ⟨(some 4), (.mv (.tmp 79)), none⟩,
    .op ⟨(some 5), (.mv (.av (.bool true))), none⟩]
def r_ref12_Norm_32 : List SOp :=
   [.op ⟨(some 4), (.mv (.av (.str []))), none⟩,
    .op ⟨(some 5), (.mv (.av (.bool false))), none⟩]
def c_ref12_Norm : LFun := ⟨80, (.seq (.sreg r_ref12_Norm_0 [])
  (.seq (.seq (.sreg r_ref12_Norm_1 [true, false, false])
  (.cond (.tmp 11) (.seq (.sreg r_ref12_Norm_2 [])
  .ret)
  .skip))
  (.seq (.seq (.sreg r_ref12_Norm_3 [])
  (.block 0 (.seq (.sreg r_ref12_Norm_4 [true, false])
  (.cond (.tmp 13) (.seq (.sreg r_ref12_Norm_5 [true, false, false, false, false])
  (.cond (.tmp 21) (.seq (.sreg r_ref12_Norm_6 [true, true, false, false])
  .ret)
  .skip))
  (.seq (.sreg r_ref12_Norm_7 [true, false])
  (.cond (.tmp 24) (.seq (.sreg r_ref12_Norm_8 [true, false, false, false, false])
  (.cond (.tmp 32) (.seq (.sreg r_ref12_Norm_9 [true, true, false])
  .ret)
  .skip))
  (.seq (.sreg r_ref12_Norm_10 [true, false])
  (.cond (.tmp 34) (.seq (.seq (.sreg r_ref12_Norm_11 [])
  (.block 1 (.loop (.seq (.seq (.sreg r_ref12_Norm_12 [true, false, false, false])
  (.cond (.tmp 39) .skip
  (.exit 1)))
  (.seq (.block 2 (.seq (.sreg r_ref12_Norm_13 [true, false, false, false])
  (.cond (.tmp 45) (.seq (.sreg r_ref12_Norm_14 [])
  .ret)
  .skip)))
  (.sreg r_ref12_Norm_15 [true, false, false]))))))
  (.seq (.sreg r_ref12_Norm_16 [true, true, false, false])
  .ret))
  (.seq (.sreg r_ref12_Norm_17 [true, false])
  (.cond (.tmp 48) (.seq (.sreg r_ref12_Norm_18 [true, false])
  (.cond (.tmp 51) (.seq (.sreg r_ref12_Norm_19 [true, true, false])
  .ret)
  .skip))
  (.seq (.sreg r_ref12_Norm_20 [true, false])
  (.cond (.tmp 53) (.seq (.sreg r_ref12_Norm_21 [true, false, false, false])
  (.cond (.tmp 60) (.seq (.sreg r_ref12_Norm_22 [true, true, false])
  .ret)
  .skip))
  (.seq (.sreg r_ref12_Norm_23 [true, false])
  (.cond (.tmp 62) (.seq (.sreg r_ref12_Norm_24 [true, true, false, false, false, false, false])
  (.seq (.sreg r_ref12_Norm_25 [true, false])
  (.cond (.tmp 70) (.seq (.sreg r_ref12_Norm_26 [true, true, false])
  .ret)
  .skip)))
  (.seq (.sreg r_ref12_Norm_27 [true, false])
  (.cond (.tmp 72) (.seq (.sreg r_ref12_Norm_28 [true, true, false])
  .ret)
  (.seq (.sreg r_ref12_Norm_29 [true, false])
  (.cond (.tmp 75) (.seq (.sreg r_ref12_Norm_30 [true, false])
  (.cond (.tmp 78) (.seq (.sreg r_ref12_Norm_31 [true, true, false])
  .ret)
  .skip))
  .skip))))))))))))))))))
  (.seq (.sreg r_ref12_Norm_32 [])
  .ret)))), [(.tmp 4), (.tmp 5)]⟩
attribute [push_cast] r_ref12_Norm_0 r_ref12_Norm_1 r_ref12_Norm_2 r_ref12_Norm_3 r_ref12_Norm_4 r_ref12_Norm_5 r_ref12_Norm_6 r_ref12_Norm_7 r_ref12_Norm_8 r_ref12_Norm_9 r_ref12_Norm_10 r_ref12_Norm_11 r_ref12_Norm_12 r_ref12_Norm_13 r_ref12_Norm_14 r_ref12_Norm_15 r_ref12_Norm_16 r_ref12_Norm_17 r_ref12_Norm_18 r_ref12_Norm_19 r_ref12_Norm_20 r_ref12_Norm_21 r_ref12_Norm_22 r_ref12_Norm_23 r_ref12_Norm_24 r_ref12_Norm_25 r_ref12_Norm_26 r_ref12_Norm_27 r_ref12_Norm_28 r_ref12_Norm_29 r_ref12_Norm_30 r_ref12_Norm_31 r_ref12_Norm_32
theorem c_ref12_Norm_eq : lowF Tryz.prog (fun _ _ => 1) 10 = some c_ref12_Norm.raw := by kernel_rfl

/-! castellan/syntax.Norm -/
def r_syntax_Norm_0 : List SOp :=
   [.op ⟨(some 4), (.mv (.av (.str []))), none⟩,
    .op ⟨(some 5), (.mv (.av (.bool false))), none⟩]
def r_syntax_Norm_1 : List SOp :=
   [.op ⟨(some 10), (.mv (.tmp 1)), none⟩,
    .op ⟨(some 11), (.len true (.tmp 10)), none⟩,
    .op ⟨(some 12), (.bin .gtr (.tmp 11) (.av (.int .i64 4096))), none⟩]
def r_syntax_Norm_2 : List SOp :=
   [.op ⟨(some 4), (.mv (.av (.str []))), none⟩,
    .op ⟨(some 5), (.mv (.av (.bool false))), none⟩]
def r_syntax_Norm_3 : List SOp :=
   [.op ⟨(some 13), (.mv (.tmp 1)), none⟩,
    .op ⟨(some 6), (.mv (.tmp 13)), none⟩,
    .op ⟨(some 7), (.mv (.av (.bool false))), none⟩]
def r_syntax_Norm_4 : List SOp :=
   [.op ⟨(some 14), (.mv (.tmp 0)), none⟩]
def r_syntax_Norm_5 : List SOp :=
   [.op ⟨(some 16), (.bin .eql (.tmp 14) (.av (.int .i64 1))), none⟩,
    .op ⟨(some 15), (.mv (.tmp 16)), none⟩]
def r_syntax_Norm_6 : List SOp :=
   [.op ⟨(some 17), (.mv (.tmp 1)), none⟩,
    .op ⟨(some 18), (.call 15 [(.tmp 17)]), none⟩,
    .op ⟨(some 19), (.mv (.tmp 1)), none⟩,
    .op ⟨(some 20), (.bin .neq (.tmp 19) (.av (.str []))), none⟩,
    .op ⟨(some 21), (.mv (.tmp 20)), none⟩,
    .grp none 21 true
      [.op ⟨(some 22), (.mv (.tmp 1)), (some (21, true))⟩,
      .op ⟨(some 23), (.call 16 [(.tmp 22)]), (some (21, true))⟩]
      24 (.tmp 23),
    .op ⟨(some 6), (.mv (.tmp 18)), none⟩,
    .op ⟨(some 7), (.mv (.tmp 24)), none⟩]
def r_syntax_Norm_7 : List SOp :=
   [.op ⟨(some 26), (.bin .eql (.tmp 14) (.av (.int .i64 2))), none⟩,
    .op ⟨(some 25), (.mv (.tmp 26)), none⟩]
def r_syntax_Norm_8 : List SOp :=
   [.op ⟨(some 27), (.mv (.tmp 1)), none⟩,
    .op ⟨(some 28), (.bin .neq (.tmp 27) (.av (.str []))), none⟩,
    .op ⟨(some 29), (.mv (.tmp 28)), none⟩,
    .grp none 29 true
      [.op ⟨(some 30), (.mv (.tmp 1)), (some (29, true))⟩,
      .op ⟨(some 31), (.call 16 [(.tmp 30)]), (some (29, true))⟩]
      32 (.tmp 31),
    .op ⟨(some 7), (.mv (.tmp 32)), none⟩]
def r_syntax_Norm_9 : List SOp :=
   [.op ⟨(some 34), (.bin .eql (.tmp 14) (.av (.int .i64 3))), none⟩,
    .op ⟨(some 33), (.mv (.tmp 34)), none⟩]
def r_syntax_Norm_10 : List SOp :=
   [.op ⟨(some 35), (.mv (.tmp 1)), none⟩,
    .op ⟨(some 36), (.call 15 [(.tmp 35)]), none⟩,
    .op ⟨(some 37), (.mv (.tmp 1)), none⟩,
    .op ⟨(some 38), (.call 17 [(.tmp 37), (.av (.func 18 []))]), none⟩,
    .op ⟨(some 39), (.bin .lss (.tmp 38) (.av (.int .i64 0))), none⟩,
    .op ⟨(some 6), (.mv (.tmp 36)), none⟩,
    .op ⟨(some 7), (.mv (.tmp 39)), none⟩]
def r_syntax_Norm_11 : List SOp :=
   [.op ⟨(some 41), (.bin .eql (.tmp 14) (.av (.int .i64 4))), none⟩,
    .op ⟨(some 40), (.mv (.tmp 41)), none⟩]
def r_syntax_Norm_12 : List SOp :=
   [.op ⟨(some 43), (.mv (.tmp 1)), none⟩,
    .op ⟨(some 44), (.call 19 [(.tmp 43)]), none⟩,
    .op ⟨(some 42), (.mv (.tmp 44)), none⟩,
    .op ⟨(some 45), (.extract (.tmp 42) 0), none⟩,
    .op ⟨(some 46), (.extract (.tmp 42) 1), none⟩,
    .op ⟨(some 7), (.mv (.tmp 46)), none⟩]
def r_syntax_Norm_13 : List SOp :=
   [.op ⟨(some 48), (.bin .eql (.tmp 14) (.av (.int .i64 5))), none⟩,
    .op ⟨(some 47), (.mv (.tmp 48)), none⟩]
def r_syntax_Norm_14 : List SOp :=
   [.op ⟨(some 49), (.mv (.tmp 1)), none⟩,
    .op ⟨(some 50), (.bin .eql (.tmp 49) (.av (.str [84, 82, 85, 69]))), none⟩,
    .op ⟨(some 51), (.mv (.tmp 50)), none⟩,
    .grp none 51 false
      [.op ⟨(some 52), (.mv (.tmp 1)), (some (51, false))⟩,
      .op ⟨(some 53), (.bin .eql (.tmp 52) (.av (.str [70, 65, 76, 83, 69]))), (some (51, false))⟩]
      54 (.tmp 53),
    .op ⟨(some 7), (.mv (.tmp 54)), none⟩]
def r_syntax_Norm_15 : List SOp :=
   [.op ⟨(some 56), (.bin .eql (.tmp 14) (.av (.int .i64 6))), none⟩,
    .op ⟨(some 55), (.mv (.tmp 56)), none⟩]
def r_syntax_Norm_16 : List SOp :=
   [.op ⟨(some 58), (.mv (.tmp 1)), none⟩,
    .op ⟨(some 59), (.call 20 [(.tmp 58)]), none⟩,
    .op ⟨(some 57), (.mv (.tmp 59)), none⟩,
    .op ⟨(some 60), (.extract (.tmp 57) 0), none⟩,
    .op ⟨(some 61), (.extract (.tmp 57) 1), none⟩,
    .op ⟨(some 8), (.mv (.tmp 60)), none⟩,
    .op ⟨(some 9), (.mv (.tmp 61)), none⟩]
def r_syntax_Norm_17 : List SOp :=
   [.op ⟨(some 62), (.mv (.tmp 8)), none⟩,
    .op ⟨(some 63), (.mv (.tmp 9)), none⟩,
    .op ⟨(some 64), (.bin .eql (.tmp 63) (.av (.int .i64 0))), none⟩,
    .op ⟨(some 6), (.mv (.tmp 62)), none⟩,
    .op ⟨(some 7), (.mv (.tmp 64)), none⟩]
def r_syntax_Norm_18 : List SOp :=
   [.op ⟨(some 66), (.bin .eql (.tmp 14) (.av (.int .i64 7))), none⟩,
    .op ⟨(some 65), (.mv (.tmp 66)), none⟩]
def r_syntax_Norm_19 : List SOp :=
   [.op ⟨(some 7), (.mv (.av (.bool true))), none⟩]
def r_syntax_Norm_20 : List SOp :=
   [.op ⟨(some 68), (.bin .eql (.tmp 14) (.av (.int .i64 8))), none⟩,
    .op ⟨(some 67), (.mv (.tmp 68)), none⟩]
def r_syntax_Norm_21 : List SOp :=
   [.op ⟨(some 69), (.mv (.tmp 1)), none⟩,
    .op ⟨(some 70), (.call 21 [(.tmp 69)]), none⟩,
    .op ⟨(some 7), (.mv (.tmp 70)), none⟩]
def r_syntax_Norm_22 : List SOp :=
   [.op ⟨(some 71), (.mv (.tmp 7)), none⟩,
    .op ⟨(some 72), (.un .not (.tmp 71)), none⟩]
def r_syntax_Norm_23 : List SOp :=
   [.op ⟨(some 4), (.mv (.av (.str []))), none⟩,
    .op ⟨(some 5), (.mv (.av (.bool false))), none⟩]
def r_syntax_Norm_24 : List SOp :=
   [.op ⟨(some 73), (.mv (.tmp 6)), none⟩,
    .op ⟨(some 4), (.mv (.tmp 73)), none⟩,
    .op ⟨(some 5), (.mv (.av (.bool true))), none⟩]
def c_syntax_Norm : LFun := ⟨74, (.seq (.sreg r_syntax_Norm_0 [])
  (.seq (.seq (.sreg r_syntax_Norm_1 [true, false, false])
  (.cond (.tmp 12) (.seq (.sreg r_syntax_Norm_2 [])
  .ret)
  .skip))
  (.seq (.sreg r_syntax_Norm_3 [true, true, false])
  (.seq (.seq (.sreg r_syntax_Norm_4 [])
  (.block 0 (.seq (.sreg r_syntax_Norm_5 [true, false])
  (.cond (.tmp 15) (.sreg r_syntax_Norm_6 [true, true, false, false, false, false, false, false])
  (.seq (.sreg r_syntax_Norm_7 [true, false])
  (.cond (.tmp 25) (.sreg r_syntax_Norm_8 [true, false, false, false, false])
  (.seq (.sreg r_syntax_Norm_9 [true, false])
  (.cond (.tmp 33) (.sreg r_syntax_Norm_10 [true, true, false, false, false, false, false])
  (.seq (.sreg r_syntax_Norm_11 [true, false])
  (.cond (.tmp 40) (.sreg r_syntax_Norm_12 [true, false, false, false, false, false])
  (.seq (.sreg r_syntax_Norm_13 [true, false])
  (.cond (.tmp 47) (.sreg r_syntax_Norm_14 [true, false, false, false, false])
  (.seq (.sreg r_syntax_Norm_15 [true, false])
  (.cond (.tmp 55) (.seq (.sreg r_syntax_Norm_16 [true, true, false, false, false, false, false])
  (.sreg r_syntax_Norm_17 [true, true, false, false, false]))
  (.seq (.sreg r_syntax_Norm_18 [true, false])
  (.cond (.tmp 65) (.sreg r_syntax_Norm_19 [])
  (.seq (.sreg r_syntax_Norm_20 [true, false])
  (.cond (.tmp 67) (.sreg r_syntax_Norm_21 [true, false, false])
  .skip))))))))))))))))))
  (.seq (.seq (.sreg r_syntax_Norm_22 [true, false])
  (.cond (.tmp 72) (.seq (.sreg r_syntax_Norm_23 [])
  .ret)
  .skip))
  (.seq (.sreg r_syntax_Norm_24 [true, true, false])
  .ret)))))), [(.tmp 4), (.tmp 5)]⟩
attribute [push_cast] r_syntax_Norm_0 r_syntax_Norm_1 r_syntax_Norm_2 r_syntax_Norm_3 r_syntax_Norm_4 r_syntax_Norm_5 r_syntax_Norm_6 r_syntax_Norm_7 r_syntax_Norm_8 r_syntax_Norm_9 r_syntax_Norm_10 r_syntax_Norm_11 r_syntax_Norm_12 r_syntax_Norm_13 r_syntax_Norm_14 r_syntax_Norm_15 r_syntax_Norm_16 r_syntax_Norm_17 r_syntax_Norm_18 r_syntax_Norm_19 r_syntax_Norm_20 r_syntax_Norm_21 r_syntax_Norm_22 r_syntax_Norm_23 r_syntax_Norm_24
theorem c_syntax_Norm_eq : lowF Tryz.prog (fun _ _ => 1) 9 = some c_syntax_Norm.raw := by kernel_rfl

/-! castellan/syntax.Order -/
def r_syntax_Order_0 : List SOp :=
   [.op ⟨(some 6), (.mv (.av (.int .i64 0))), none⟩,
    .op ⟨(some 7), (.mv (.av (.bool false))), none⟩]
def r_syntax_Order_1 : List SOp :=
   [.op ⟨(some 17), (.mv (.tmp 0)), none⟩,
    .op ⟨(some 18), (.mv (.tmp 1)), none⟩,
    .op ⟨(some 19), (.call 9 [(.tmp 17), (.tmp 18)]), none⟩,
    .op ⟨(some 16), (.mv (.tmp 19)), none⟩,
    .op ⟨(some 20), (.extract (.tmp 16) 0), none⟩,
    .op ⟨(some 21), (.extract (.tmp 16) 1), none⟩,
    .op ⟨(some 8), (.mv (.tmp 20)), none⟩,
    .op ⟨(some 9), (.mv (.tmp 21)), none⟩]
def r_syntax_Order_2 : List SOp :=
   [.op ⟨(some 23), (.mv (.tmp 0)), none⟩,
    .op ⟨(some 24), (.mv (.tmp 2)), none⟩,
    .op ⟨(some 25), (.call 9 [(.tmp 23), (.tmp 24)]), none⟩,
    .op ⟨(some 22), (.mv (.tmp 25)), none⟩,
    .op ⟨(some 26), (.extract (.tmp 22) 0), none⟩,
    .op ⟨(some 27), (.extract (.tmp 22) 1), none⟩,
    .op ⟨(some 10), (.mv (.tmp 26)), none⟩,
    .op ⟨(some 11), (.mv (.tmp 27)), none⟩]
def r_syntax_Order_3 : List SOp :=
   [.op ⟨(some 28), (.mv (.tmp 9)), none⟩,
    .op ⟨(some 29), (.un .not (.tmp 28)), none⟩,
    .op ⟨(some 30), (.mv (.tmp 29)), none⟩,
    .grp none 30 false
      [.op ⟨(some 31), (.mv (.tmp 11)), (some (30, false))⟩,
      .op ⟨(some 32), (.un .not (.tmp 31)), (some (30, false))⟩]
      33 (.tmp 32),
    .op ⟨(some 34), (.mv (.tmp 33)), none⟩,
    .grp none 34 false
      [.op ⟨(some 35), (.mv (.tmp 0)), (some (34, false))⟩,
      .op ⟨(some 36), (.bin .eql (.tmp 35) (.av (.int .i64 5))), (some (34, false))⟩]
      37 (.tmp 36),
    .op ⟨(some 38), (.mv (.tmp 37)), none⟩,
    .grp none 38 false
      [.op ⟨(some 39), (.mv (.tmp 0)), (some (38, false))⟩,
      .op ⟨(some 40), (.bin .eql (.tmp 39) (.av (.int .i64 6))), (some (38, false))⟩]
      41 (.tmp 40),
    .op ⟨(some 42), (.mv (.tmp 41)), none⟩,
    .grp none 42 false
      [.op ⟨(some 43), (.mv (.tmp 0)), (some (42, false))⟩,
      .op ⟨(some 44), (.bin .eql (.tmp 43) (.av (.int .i64 7))), (some (42, false))⟩]
      45 (.tmp 44)]
def r_syntax_Order_4 : List SOp :=
   [.op ⟨(some 6), (.mv (.av (.int .i64 0))), none⟩,
    .op ⟨(some 7), (.mv (.av (.bool false))), none⟩]
def r_syntax_Order_5 : List SOp :=
   [.op ⟨(some 46), (.mv (.tmp 0)), none⟩,
    .op ⟨(some 47), (.bin .eql (.tmp 46) (.av (.int .i64 4))), none⟩]
def r_syntax_Order_6 : List SOp :=
   [.op ⟨(some 49), (.mv (.tmp 8)), none⟩,
    .op ⟨(some 50), (.call 19 [(.tmp 49)]), none⟩,
    .op ⟨(some 48), (.mv (.tmp 50)), none⟩,
    .op ⟨(some 51), (.extract (.tmp 48) 0), none⟩,
    .op ⟨(some 52), (.extract (.tmp 48) 1), none⟩,
    .op ⟨(some 12), (.mv (.tmp 51)), none⟩,
    .op ⟨(some 13), (.mv (.tmp 52)), none⟩]
def r_syntax_Order_7 : List SOp :=
   [.op ⟨(some 54), (.mv (.tmp 10)), none⟩,
    .op ⟨(some 55), (.call 19 [(.tmp 54)]), none⟩,
    .op ⟨(some 53), (.mv (.tmp 55)), none⟩,
    .op ⟨(some 56), (.extract (.tmp 53) 0), none⟩,
    .op ⟨(some 57), (.extract (.tmp 53) 1), none⟩,
    .op ⟨(some 14), (.mv (.tmp 56)), none⟩,
    .op ⟨(some 15), (.mv (.tmp 57)), none⟩]
def r_syntax_Order_8 : List SOp :=
   [.op ⟨(some 58), (.mv (.tmp 12)), none⟩,
    .op ⟨(some 59), (.mv (.tmp 14)), none⟩,
    .op ⟨(some 60), (.call 27 [(.tmp 58), (.tmp 59)]), none⟩,
    .op ⟨(some 6), (.mv (.tmp 60)), none⟩,
    .op ⟨(some 7), (.mv (.av (.bool true))), none⟩]
def r_syntax_Order_9 : List SOp :=
   [.op ⟨(some 61), (.mv (.tmp 8)), none⟩,
    .op ⟨(some 62), (.mv (.tmp 10)), none⟩,
    .op ⟨(some 63), (.call 28 [(.tmp 61), (.tmp 62)]), none⟩,
    .op ⟨(some 6), (.mv (.tmp 63)), none⟩,
    .op ⟨(some 7), (.mv (.av (.bool true))), none⟩]
def c_syntax_Order : LFun := ⟨64, (.seq (.sreg r_syntax_Order_0 [])
  (.seq (.sreg r_syntax_Order_1 [true, true, false, false, false, false, false, false])
  (.seq (.sreg r_syntax_Order_2 [true, true, false, false, false, false, false, false])
  (.seq (.seq (.sreg r_syntax_Order_3 [true, false, false, false, false, false, false, false, false, false])
  (.cond (.tmp 45) (.seq (.sreg r_syntax_Order_4 [])
  .ret)
  .skip))
  (.seq (.seq (.sreg r_syntax_Order_5 [true, false])
  (.cond (.tmp 47) (.seq (.sreg r_syntax_Order_6 [false, true, false, false, false, false, false])
  (.seq (.sreg r_syntax_Order_7 [false, true, false, false, false, false, false])
  (.seq (.sreg r_syntax_Order_8 [true, true, false, false, false])
  .ret)))
  .skip))
  (.seq (.sreg r_syntax_Order_9 [true, true, false, false, false])
  .ret)))))), [(.tmp 6), (.tmp 7)]⟩
attribute [push_cast] r_syntax_Order_0 r_syntax_Order_1 r_syntax_Order_2 r_syntax_Order_3 r_syntax_Order_4 r_syntax_Order_5 r_syntax_Order_6 r_syntax_Order_7 r_syntax_Order_8 r_syntax_Order_9
theorem c_syntax_Order_eq : lowF Tryz.prog (fun _ _ => 1) 11 = some c_syntax_Order.raw := by kernel_rfl

end Go.Proofs.YtffnflplocbpiaaGreatDoor.Av
