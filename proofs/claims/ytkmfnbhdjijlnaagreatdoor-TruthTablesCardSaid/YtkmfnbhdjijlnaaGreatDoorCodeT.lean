/- Bodies of functions, lowered: printed by a program (wip/tools/lower.py); each is held against the program by the kernel. -/
import Derived.Test.YtkmfnbhdjijlnaaGreatDoorAvT
import Derived.Test.YtkmfnbhdjijlnaaGreatDoorRows
import Derived.KernelRfl
set_option maxRecDepth 100000
set_option linter.unusedSimpArgs false
set_option linter.unusedVariables false
namespace Go.Proofs.YtkmfnbhdjijlnaaGreatDoor.Av
open Go

/-! castellan/truth.And -/
def r_truth_And_0 : List SOp :=
   [.op ⟨(some 2), (.mv (.av (.int .i64 0))), none⟩]
def r_truth_And_1 : List SOp :=
   [.op ⟨(some 3), (.mv (.av (.int .i64 1))), none⟩]
def r_truth_And_2 : List SOp :=
   [.op ⟨(some 6), (.mv (.tmp 0)), none⟩,
    .op ⟨(some 7), (.len false (.tmp 6)), none⟩,
    .op ⟨(some 8), (.mv (.av (.int .i64 0))), none⟩]
def r_truth_And_3 : List SOp :=
   [.op ⟨(some 9), (.bin .lss (.tmp 8) (.tmp 7)), none⟩]
def r_truth_And_4 : List SOp :=
   [.op ⟨(some 10), (.iaddr 1 (.tmp 6) (.tmp 8)), none⟩,
    .op ⟨(some 11), (.load false 1 (.tmp 10)), none⟩,
    .op ⟨(some 5), (.mv (.tmp 11)), none⟩]
def r_truth_And_5 : List SOp :=
   [.op ⟨(some 13), (.mv (.tmp 5)), none⟩,
    .op ⟨(some 14), (.bin .eql (.tmp 13) (.av (.int .i64 0))), none⟩,
    .op ⟨(some 12), (.mv (.tmp 14)), none⟩]
def r_truth_And_6 : List SOp :=
   [.op ⟨(some 2), (.mv (.av (.int .i64 0))), none⟩]
def r_truth_And_7 : List SOp :=
   [.op ⟨(some 16), (.mv (.tmp 5)), none⟩,
    .op ⟨(some 17), (.bin .neq (.tmp 16) (.av (.int .i64 1))), none⟩,
    .op ⟨(some 15), (.mv (.tmp 17)), none⟩]
def r_truth_And_8 : List SOp :=
   [.op ⟨(some 3), (.mv (.av (.int .i64 2))), none⟩]
def r_truth_And_9 : List SOp :=
   [.op ⟨(some 18), (.bin .add (.tmp 8) (.av (.int .i64 1))), none⟩,
    .op ⟨(some 8), (.mv (.tmp 18)), none⟩]
def r_truth_And_10 : List SOp :=
   [.op ⟨(some 19), (.mv (.tmp 3)), none⟩,
    .op ⟨(some 2), (.mv (.tmp 19)), none⟩]
def c_truth_And : LFun := ⟨20, (.seq (.sreg r_truth_And_0 [])
  (.seq (.sreg r_truth_And_1 [])
  (.seq (.seq (.sreg r_truth_And_2 [])
  (.block 0 (.loop (.seq (.sreg r_truth_And_3 [])
  (.seq (.cond (.tmp 9) .skip
  (.exit 0))
  (.seq (.block 1 (.seq (.sreg r_truth_And_4 [true, false, false])
  (.block 2 (.seq (.sreg r_truth_And_5 [true, false, false])
  (.cond (.tmp 12) (.seq (.sreg r_truth_And_6 [])
  .ret)
  (.seq (.sreg r_truth_And_7 [true, false, false])
  (.cond (.tmp 15) (.sreg r_truth_And_8 [])
  .skip)))))))
  (.sreg r_truth_And_9 [true, false])))))))
  (.seq (.sreg r_truth_And_10 [true, false])
  .ret)))), [(.tmp 2)]⟩
attribute [push_cast] r_truth_And_0 r_truth_And_1 r_truth_And_2 r_truth_And_3 r_truth_And_4 r_truth_And_5 r_truth_And_6 r_truth_And_7 r_truth_And_8 r_truth_And_9 r_truth_And_10
theorem c_truth_And_eq : lowF Tryz.prog (fun _ _ => 1) 18 = some c_truth_And.raw := by kernel_rfl

/-! castellan/truth.Or -/
def r_truth_Or_0 : List SOp :=
   [.op ⟨(some 2), (.mv (.av (.int .i64 0))), none⟩]
def r_truth_Or_1 : List SOp :=
   [.op ⟨(some 3), (.mv (.av (.sl [] 0 (some 0)))), none⟩]
def r_truth_Or_2 : List SOp :=
   [.op ⟨(some 6), (.mv (.tmp 0)), none⟩,
    .op ⟨(some 7), (.len false (.tmp 6)), none⟩,
    .op ⟨(some 8), (.mv (.av (.int .i64 0))), none⟩]
def r_truth_Or_3 : List SOp :=
   [.op ⟨(some 9), (.bin .lss (.tmp 8) (.tmp 7)), none⟩]
def r_truth_Or_4 : List SOp :=
   [.op ⟨(some 10), (.iaddr 1 (.tmp 6) (.tmp 8)), none⟩,
    .op ⟨(some 11), (.load false 1 (.tmp 10)), none⟩,
    .op ⟨(some 5), (.mv (.tmp 11)), none⟩]
def r_truth_Or_5 : List SOp :=
   [.op ⟨(some 12), (.mv (.tmp 3)), none⟩,
    .op ⟨(some 13), (.mv (.tmp 5)), none⟩,
    .op ⟨(some 14), (.call 22 [(.tmp 13)]), none⟩,
    .op ⟨(some 15), (.bslice false 1 1 [(.int .i64 0)] [(0, (1, (.tmp 14)))]), none⟩,
    .op ⟨(some 16), (.app 1 1 8 [(.int .i64 0)] (.tmp 12) (.tmp 15)), none⟩,
    .op ⟨(some 3), (.mv (.tmp 16)), none⟩]
def r_truth_Or_6 : List SOp :=
   [.op ⟨(some 17), (.bin .add (.tmp 8) (.av (.int .i64 1))), none⟩,
    .op ⟨(some 8), (.mv (.tmp 17)), none⟩]
def r_truth_Or_7 : List SOp :=
   [.op ⟨(some 18), (.mv (.tmp 3)), none⟩,
    .op ⟨(some 19), (.call 18 [(.tmp 18)]), none⟩,
    .op ⟨(some 20), (.call 22 [(.tmp 19)]), none⟩,
    .op ⟨(some 2), (.mv (.tmp 20)), none⟩]
def c_truth_Or : LFun := ⟨21, (.seq (.sreg r_truth_Or_0 [])
  (.seq (.sreg r_truth_Or_1 [])
  (.seq (.seq (.sreg r_truth_Or_2 [])
  (.block 0 (.loop (.seq (.sreg r_truth_Or_3 [])
  (.seq (.cond (.tmp 9) .skip
  (.exit 0))
  (.seq (.block 1 (.seq (.sreg r_truth_Or_4 [true, false, false])
  (.sreg r_truth_Or_5 [true, false, false, false, false, false])))
  (.sreg r_truth_Or_6 [true, false])))))))
  (.seq (.sreg r_truth_Or_7 [true, false, false, false])
  .ret)))), [(.tmp 2)]⟩
attribute [push_cast] r_truth_Or_0 r_truth_Or_1 r_truth_Or_2 r_truth_Or_3 r_truth_Or_4 r_truth_Or_5 r_truth_Or_6 r_truth_Or_7
theorem c_truth_Or_eq : lowF Tryz.prog (fun _ _ => 1) 20 = some c_truth_Or.raw := by kernel_rfl

/-! castellan/truth.Not -/
def r_truth_Not_0 : List SOp :=
   [.op ⟨(some 2), (.mv (.av (.int .i64 0))), none⟩]
def r_truth_Not_1 : List SOp :=
   [.op ⟨(some 3), (.mv (.tmp 0)), none⟩]
def r_truth_Not_2 : List SOp :=
   [.op ⟨(some 5), (.bin .eql (.tmp 3) (.av (.int .i64 0))), none⟩,
    .op ⟨(some 4), (.mv (.tmp 5)), none⟩]
def r_truth_Not_3 : List SOp :=
   [.op ⟨(some 2), (.mv (.av (.int .i64 1))), none⟩]
def r_truth_Not_4 : List SOp :=
   [.op ⟨(some 7), (.bin .eql (.tmp 3) (.av (.int .i64 1))), none⟩,
    .op ⟨(some 6), (.mv (.tmp 7)), none⟩]
def r_truth_Not_5 : List SOp :=
   [.op ⟨(some 2), (.mv (.av (.int .i64 0))), none⟩]
def r_truth_Not_6 : List SOp :=
   [.op ⟨(some 2), (.mv (.av (.int .i64 2))), none⟩]
def c_truth_Not : LFun := ⟨8, (.seq (.sreg r_truth_Not_0 [])
  (.seq (.seq (.sreg r_truth_Not_1 [])
  (.block 0 (.seq (.sreg r_truth_Not_2 [true, false])
  (.cond (.tmp 4) (.seq (.sreg r_truth_Not_3 [])
  .ret)
  (.seq (.sreg r_truth_Not_4 [true, false])
  (.cond (.tmp 6) (.seq (.sreg r_truth_Not_5 [])
  .ret)
  .skip))))))
  (.seq (.sreg r_truth_Not_6 [])
  .ret))), [(.tmp 2)]⟩
attribute [push_cast] r_truth_Not_0 r_truth_Not_1 r_truth_Not_2 r_truth_Not_3 r_truth_Not_4 r_truth_Not_5 r_truth_Not_6
theorem c_truth_Not_eq : lowF Tryz.prog (fun _ _ => 1) 22 = some c_truth_Not.raw := by kernel_rfl

/-! castellan/castellanref21.count -/
def r_ref21_count_0 : List SOp :=
   [.op ⟨(some 4), (.mv (.av (.int .i64 0))), none⟩]
def r_ref21_count_1 : List SOp :=
   [.op ⟨(some 5), (.mv (.av (.int .i64 0))), none⟩]
def r_ref21_count_2 : List SOp :=
   [.op ⟨(some 8), (.mv (.tmp 0)), none⟩,
    .op ⟨(some 9), (.len false (.tmp 8)), none⟩,
    .op ⟨(some 10), (.mv (.av (.int .i64 0))), none⟩]
def r_ref21_count_3 : List SOp :=
   [.op ⟨(some 11), (.bin .lss (.tmp 10) (.tmp 9)), none⟩]
def r_ref21_count_4 : List SOp :=
   [.op ⟨(some 12), (.iaddr 1 (.tmp 8) (.tmp 10)), none⟩,
    .op ⟨(some 13), (.load false 1 (.tmp 12)), none⟩,
    .op ⟨(some 7), (.mv (.tmp 13)), none⟩]
def r_ref21_count_5 : List SOp :=
   [.op ⟨(some 14), (.mv (.tmp 7)), none⟩,
    .op ⟨(some 15), (.mv (.tmp 1)), none⟩,
    .op ⟨(some 16), (.bin .eql (.tmp 14) (.tmp 15)), none⟩]
def r_ref21_count_6 : List SOp :=
   [.op ⟨(some 17), (.mv (.tmp 5)), none⟩,
    .op ⟨(some 18), (.bin .add (.tmp 17) (.av (.int .i64 1))), none⟩,
    .op ⟨(some 5), (.mv (.tmp 18)), none⟩]
def r_ref21_count_7 : List SOp :=
   [.op ⟨(some 19), (.bin .add (.tmp 10) (.av (.int .i64 1))), none⟩,
    .op ⟨(some 10), (.mv (.tmp 19)), none⟩]
def r_ref21_count_8 : List SOp :=
   [.op ⟨(some 20), (.mv (.tmp 5)), none⟩,
    .op ⟨(some 4), (.mv (.tmp 20)), none⟩]
def c_ref21_count : LFun := ⟨21, (.seq (.sreg r_ref21_count_0 [])
  (.seq (.sreg r_ref21_count_1 [])
  (.seq (.seq (.sreg r_ref21_count_2 [])
  (.block 0 (.loop (.seq (.sreg r_ref21_count_3 [])
  (.seq (.cond (.tmp 11) .skip
  (.exit 0))
  (.seq (.block 1 (.seq (.sreg r_ref21_count_4 [true, false, false])
  (.seq (.sreg r_ref21_count_5 [true, false, false])
  (.cond (.tmp 16) (.sreg r_ref21_count_6 [true, false, false])
  .skip))))
  (.sreg r_ref21_count_7 [true, false])))))))
  (.seq (.sreg r_ref21_count_8 [true, false])
  .ret)))), [(.tmp 4)]⟩
attribute [push_cast] r_ref21_count_0 r_ref21_count_1 r_ref21_count_2 r_ref21_count_3 r_ref21_count_4 r_ref21_count_5 r_ref21_count_6 r_ref21_count_7 r_ref21_count_8
theorem c_ref21_count_eq : lowF Tryz.prog (fun _ _ => 1) 55 = some c_ref21_count.raw := by kernel_rfl

/-! castellan/castellanref21.And -/
def r_ref21_And_0 : List SOp :=
   [.op ⟨(some 2), (.mv (.av (.int .i64 0))), none⟩]
def r_ref21_And_1 : List SOp :=
   [.op ⟨(some 3), (.mv (.tmp 0)), none⟩,
    .op ⟨(some 4), (.call 55 [(.tmp 3), (.av (.int .i64 0))]), none⟩,
    .op ⟨(some 5), (.bin .gtr (.tmp 4) (.av (.int .i64 0))), none⟩]
def r_ref21_And_2 : List SOp :=
   [.op ⟨(some 2), (.mv (.av (.int .i64 0))), none⟩]
def r_ref21_And_3 : List SOp :=
   [.op ⟨(some 6), (.mv (.tmp 0)), none⟩,
    .op ⟨(some 7), (.call 55 [(.tmp 6), (.av (.int .i64 1))]), none⟩,
    .op ⟨(some 8), (.mv (.tmp 0)), none⟩,
    .op ⟨(some 9), (.len false (.tmp 8)), none⟩,
    .op ⟨(some 10), (.bin .lss (.tmp 7) (.tmp 9)), none⟩]
def r_ref21_And_4 : List SOp :=
   [.op ⟨(some 2), (.mv (.av (.int .i64 2))), none⟩]
def r_ref21_And_5 : List SOp :=
   [.op ⟨(some 2), (.mv (.av (.int .i64 1))), none⟩]
def c_ref21_And : LFun := ⟨11, (.seq (.sreg r_ref21_And_0 [])
  (.seq (.seq (.sreg r_ref21_And_1 [true, false, false])
  (.cond (.tmp 5) (.seq (.sreg r_ref21_And_2 [])
  .ret)
  .skip))
  (.seq (.seq (.sreg r_ref21_And_3 [true, false, false, false, false])
  (.cond (.tmp 10) (.seq (.sreg r_ref21_And_4 [])
  .ret)
  .skip))
  (.seq (.sreg r_ref21_And_5 [])
  .ret)))), [(.tmp 2)]⟩
attribute [push_cast] r_ref21_And_0 r_ref21_And_1 r_ref21_And_2 r_ref21_And_3 r_ref21_And_4 r_ref21_And_5
theorem c_ref21_And_eq : lowF Tryz.prog (fun _ _ => 1) 19 = some c_ref21_And.raw := by kernel_rfl

/-! castellan/castellanref21.Or -/
def r_ref21_Or_0 : List SOp :=
   [.op ⟨(some 2), (.mv (.av (.int .i64 0))), none⟩]
def r_ref21_Or_1 : List SOp :=
   [.op ⟨(some 3), (.mv (.tmp 0)), none⟩,
    .op ⟨(some 4), (.call 55 [(.tmp 3), (.av (.int .i64 1))]), none⟩,
    .op ⟨(some 5), (.bin .gtr (.tmp 4) (.av (.int .i64 0))), none⟩]
def r_ref21_Or_2 : List SOp :=
   [.op ⟨(some 2), (.mv (.av (.int .i64 1))), none⟩]
def r_ref21_Or_3 : List SOp :=
   [.op ⟨(some 6), (.mv (.tmp 0)), none⟩,
    .op ⟨(some 7), (.call 55 [(.tmp 6), (.av (.int .i64 0))]), none⟩,
    .op ⟨(some 8), (.mv (.tmp 0)), none⟩,
    .op ⟨(some 9), (.len false (.tmp 8)), none⟩,
    .op ⟨(some 10), (.bin .lss (.tmp 7) (.tmp 9)), none⟩]
def r_ref21_Or_4 : List SOp :=
   [.op ⟨(some 2), (.mv (.av (.int .i64 2))), none⟩]
def r_ref21_Or_5 : List SOp :=
   [.op ⟨(some 2), (.mv (.av (.int .i64 0))), none⟩]
def c_ref21_Or : LFun := ⟨11, (.seq (.sreg r_ref21_Or_0 [])
  (.seq (.seq (.sreg r_ref21_Or_1 [true, false, false])
  (.cond (.tmp 5) (.seq (.sreg r_ref21_Or_2 [])
  .ret)
  .skip))
  (.seq (.seq (.sreg r_ref21_Or_3 [true, false, false, false, false])
  (.cond (.tmp 10) (.seq (.sreg r_ref21_Or_4 [])
  .ret)
  .skip))
  (.seq (.sreg r_ref21_Or_5 [])
  .ret)))), [(.tmp 2)]⟩
attribute [push_cast] r_ref21_Or_0 r_ref21_Or_1 r_ref21_Or_2 r_ref21_Or_3 r_ref21_Or_4 r_ref21_Or_5
theorem c_ref21_Or_eq : lowF Tryz.prog (fun _ _ => 1) 21 = some c_ref21_Or.raw := by kernel_rfl

/-! castellan/castellanref21.Not -/
def r_ref21_Not_0 : List SOp :=
   [.op ⟨(some 2), (.mv (.av (.int .i64 0))), none⟩]
def r_ref21_Not_1 : List SOp :=
   [.op ⟨(some 3), (.mv (.tmp 0)), none⟩,
    .op ⟨(some 4), (.bin .eql (.tmp 3) (.av (.int .i64 0))), none⟩,
    .op ⟨(some 5), (.mv (.tmp 4)), none⟩,
    .grp none 5 false
      [.op ⟨(some 6), (.mv (.tmp 0)), (some (5, false))⟩,
      .op ⟨(some 7), (.bin .eql (.tmp 6) (.av (.int .i64 1))), (some (5, false))⟩]
      8 (.tmp 7)]
def r_ref21_Not_2 : List SOp :=
   [.op ⟨(some 9), (.mv (.tmp 0)), none⟩,
    .op ⟨(some 10), (.bin .sub (.av (.int .i64 1)) (.tmp 9)), none⟩,
    .op ⟨(some 2), (.mv (.tmp 10)), none⟩]
def r_ref21_Not_3 : List SOp :=
   [.op ⟨(some 2), (.mv (.av (.int .i64 2))), none⟩]
def c_ref21_Not : LFun := ⟨11, (.seq (.sreg r_ref21_Not_0 [])
  (.seq (.seq (.sreg r_ref21_Not_1 [true, false, false, false])
  (.cond (.tmp 8) (.seq (.sreg r_ref21_Not_2 [true, false, false])
  .ret)
  .skip))
  (.seq (.sreg r_ref21_Not_3 [])
  .ret))), [(.tmp 2)]⟩
attribute [push_cast] r_ref21_Not_0 r_ref21_Not_1 r_ref21_Not_2 r_ref21_Not_3
theorem c_ref21_Not_eq : lowF Tryz.prog (fun _ _ => 1) 23 = some c_ref21_Not.raw := by kernel_rfl

/-! castellan/castellanlaw21.TruthTables -/
def r_law21_TruthTables_0 : List SOp :=
   [.op ⟨(some 4), (.mv (.av (.bool false))), none⟩]
def r_law21_TruthTables_1 : List SOp :=
   [.op ⟨(some 5), (.mv (.tmp 0)), none⟩,
    .op ⟨(some 6), (.len false (.tmp 5)), none⟩,
    .op ⟨(some 7), (.bin .gtr (.tmp 6) (.av (.int .i64 1000))), none⟩]
def r_law21_TruthTables_2 : List SOp :=
   [.op ⟨(some 8), (.call 17 []), none⟩,
    .op ⟨(some 4), (.mv (.tmp 8)), none⟩]
def r_law21_TruthTables_3 : List SOp :=
   [.op ⟨(some 9), (.call 17 []), none⟩,
    .op ⟨(some 10), (.mv (.tmp 9)), none⟩,
    .grp none 10 true
      [.op ⟨(some 11), (.mv (.tmp 0)), (some (10, true))⟩,
      .op ⟨(some 12), (.call 18 [(.tmp 11)]), (some (10, true))⟩,
      .op ⟨(some 13), (.mv (.tmp 0)), (some (10, true))⟩,
      .op ⟨(some 14), (.call 19 [(.tmp 13)]), (some (10, true))⟩,
      .op ⟨(some 15), (.bin .eql (.tmp 12) (.tmp 14)), (some (10, true))⟩]
      16 (.tmp 15),
    .op ⟨(some 17), (.mv (.tmp 16)), none⟩,
    .grp none 17 true
      [.op ⟨(some 18), (.mv (.tmp 0)), (some (17, true))⟩,
      .op ⟨(some 19), (.call 20 [(.tmp 18)]), (some (17, true))⟩,
      .op ⟨(some 20), (.mv (.tmp 0)), (some (17, true))⟩,
      .op ⟨(some 21), (.call 21 [(.tmp 20)]), (some (17, true))⟩,
      .op ⟨(some 22), (.bin .eql (.tmp 19) (.tmp 21)), (some (17, true))⟩]
      23 (.tmp 22),
    .op ⟨(some 24), (.mv (.tmp 23)), none⟩,
    .grp none 24 true
      [.op ⟨(some 25), (.mv (.tmp 1)), (some (24, true))⟩,
      .op ⟨(some 26), (.call 22 [(.tmp 25)]), (some (24, true))⟩,
      .op ⟨(some 27), (.mv (.tmp 1)), (some (24, true))⟩,
      .op ⟨(some 28), (.call 23 [(.tmp 27)]), (some (24, true))⟩,
      .op ⟨(some 29), (.bin .eql (.tmp 26) (.tmp 28)), (some (24, true))⟩]
      30 (.tmp 29),
    .op ⟨(some 4), (.mv (.tmp 30)), none⟩]
def c_law21_TruthTables : LFun := ⟨31, (.seq (.sreg r_law21_TruthTables_0 [])
  (.seq (.seq (.sreg r_law21_TruthTables_1 [true, false, false])
  (.cond (.tmp 7) (.seq (.sreg r_law21_TruthTables_2 [true, false])
  .ret)
  .skip))
  (.seq (.sreg r_law21_TruthTables_3 [true, false, false, false, false, false, false, false])
  .ret))), [(.tmp 4)]⟩
attribute [push_cast] r_law21_TruthTables_0 r_law21_TruthTables_1 r_law21_TruthTables_2 r_law21_TruthTables_3
theorem c_law21_TruthTables_eq : lowF Tryz.prog (fun _ _ => 1) 4 = some c_law21_TruthTables.raw := by kernel_rfl

end Go.Proofs.YtkmfnbhdjijlnaaGreatDoor.Av
